/- The abstract evaluator of the model: texts Ab Ac Ad Ae Af. -/
import Derived.Test.YtofkmenlcnjolaaGreatDoorE4
import Derived.Laws.NewFold
import Derived.OrdersIn
import Derived.RangeFuncLeaves
/- The abstract evaluator, part Ab: one step of a region in the model. -/
namespace Go.Ev
/-- what a call leaves -/
def Post (φ : Phi) (H : Heap) (w : World) (Q : V → Heap → Prop) (e : Ending) (w' : World) : Prop := ∃ v v' H' ψ, e = .returned v' ∧ Ext φ H w ψ H' w' ∧ Rv ψ v v' ∧ Q v H'
/-- a call comes to what Q says, whatever is drawn -/
def CallTo (P : Program) (G : Nat) (t : Tgt) (args : List V) (H : Heap) (Q : V → Heap → Prop) : Prop := match t with
  | .fn f => FnIs P f ∧ ∀ (φ : Phi) (w : World) (args' : List Value), Rel φ H w → GlobOk G φ → Rvs φ args args' → Calls P f ⟨args'⟩ w (Post φ H w Q)
  | .yld b => ∀ (φ : Phi) (w : World) (args' : List Value) (l : Loc), Rel φ H w → GlobOk G φ → Rvs φ args args' → φ b = some l →
      ∃ f tmps assign body, (Instr.yield l.c ⟨args'⟩).run P w = .ok (.round l.c f tmps assign body) w ∧ RoundIn Fence.wide 0 P l.c f tmps assign body w (Post φ H w Q)
theorem Post.mono {φ : Phi} {H : Heap} {w : World} {Q Q' : V → Heap → Prop} (h : ∀ v H', Q v H' → Q' v H') {e : Ending} {w' : World} (p : Post φ H w Q e w') : Post φ H w Q' e w' :=
  let ⟨v, v', H', ψ, h1, h2, h3, h4⟩ := p; ⟨v, v', H', ψ, h1, h2, h3, h _ _ h4⟩
theorem CallTo.mono {P : Program} {G : Nat} {t : Tgt} {args : List V} {H : Heap} {Q Q' : V → Heap → Prop} (h : ∀ v H', Q v H' → Q' v H') (c : CallTo P G t args H Q) : CallTo P G t args H Q' := by
  cases t with
  | fn f => exact ⟨c.1, fun _ _ _ h1 h2 h3 => (c.2 _ _ _ h1 h2 h3).mono fun _ _ => Post.mono h⟩
  | yld b => exact fun _ _ _ _ h1 h2 h3 h4 => let ⟨f, t, a, bd, g1, g2⟩ := c _ _ _ _ h1 h2 h3 h4; ⟨f, t, a, bd, g1, g2.mono fun _ _ => Post.mono h⟩
/-- the numbers but i -/
noncomputable def without (i : Nat) (l : List Nat) : List Nat := lfilter (fun j => !(Nat.beq j i)) l
/-- the next entry of a map, whichever -/
def NextTo (v : V) (H : Heap) (Q : V → Heap → Prop) : Prop := ∃ b m since left cur last es, v = .ptr b 0 ∧ H.get b = .oth (.iter m since left cur last) ∧ H.get m = .oth (.map es) ∧
  (∀ i k x, es[i]? = some (k, x) → (i ∈ left ∨ since ≤ i) → Q (.tup [.bool true, k, x]) (H.set b (.oth (.iter m since (without i left) (some i) es.length)))) ∧
  ((∀ i ∈ left, es.length ≤ i) → Q (.tup [.bool false]) H)
/-- an operation of a region -/
def StepTo (P : Program) (G : Nat) (s : Step) (F : Fr) (H : Heap) (K : Fr → Heap → Prop) : Prop :=
  (s.want F = some false ∧ K (put F s.dst V.undef) H) ∨ (s.want F = some true ∧ match s.cop with
    | .call xs g => ∃ t args, g (vals xs F) = some (t, args) ∧ CallTo P G t args H fun v H1 => K (put F s.dst v) H1
    | .nxt x => NextTo (x F) H fun v H1 => K (put F s.dst v) H1
    | _ => ∃ F1 H1, exec noO s F H = some (F1, H1) ∧ K F1 H1)
/-- the operations of a region, one after the other -/
def RunsTo (P : Program) (G : Nat) : List Ins → Fr → Heap → (Fr → Heap → Prop) → Prop
  | [], F, H, Q => Q F H
  | .ex s :: l, F, H, Q => StepTo P G s F H fun F1 H1 => RunsTo P G l F1 H1 Q
  | .re s :: l, F, H, Q => again s F H = true ∧ RunsTo P G l F H Q
theorem StepTo.mono {P : Program} {G : Nat} {s : Step} {F : Fr} {H : Heap} {K K' : Fr → Heap → Prop} (h : ∀ F H, K F H → K' F H) (p : StepTo P G s F H K) : StepTo P G s F H K' := by
  rcases p with ⟨h1, h2⟩ | ⟨h1, h2⟩
  · exact .inl ⟨h1, h _ _ h2⟩
  · refine .inr ⟨h1, ?_⟩
    cases hc : s.cop with
    | call xs g => rw [hc] at h2; obtain ⟨t, args, g1, g2⟩ := h2; exact ⟨t, args, g1, g2.mono fun _ _ => h _ _⟩
    | nxt x =>
      rw [hc] at h2
      obtain ⟨b, m, since, left, cur, last, es, g1, g2, g3, g4, g5⟩ := h2
      exact ⟨b, m, since, left, cur, last, es, g1, g2, g3, fun i k x a b => h _ _ (g4 i k x a b), fun a => h _ _ (g5 a)⟩
    | bad => rw [hc] at h2; obtain ⟨F1, H1, g1, g2⟩ := h2; exact ⟨F1, H1, g1, h _ _ g2⟩
    | pu xs g => rw [hc] at h2; obtain ⟨F1, H1, g1, g2⟩ := h2; exact ⟨F1, H1, g1, h _ _ g2⟩
    | rd xs g => rw [hc] at h2; obtain ⟨F1, H1, g1, g2⟩ := h2; exact ⟨F1, H1, g1, h _ _ g2⟩
    | eff xs g => rw [hc] at h2; obtain ⟨F1, H1, g1, g2⟩ := h2; exact ⟨F1, H1, g1, h _ _ g2⟩
theorem RunsTo.mono {P : Program} {G : Nat} {Q Q' : Fr → Heap → Prop} (h : ∀ F H, Q F H → Q' F H) : ∀ {l : List Ins} {F : Fr} {H : Heap}, RunsTo P G l F H Q → RunsTo P G l F H Q' := by
  intro l
  induction l with
  | nil => exact fun p => h _ _ p
  | cons i l ih =>
    intro F H p
    cases i with
    | ex s => exact StepTo.mono (fun _ _ => ih) p
    | re s => exact ⟨p.1, ih p.2⟩
theorem RunsTo.app {P : Program} {G : Nat} {Q : Fr → Heap → Prop} : ∀ {l l' : List Ins} {F : Fr} {H : Heap}, RunsTo P G (l ++ l') F H Q ↔ RunsTo P G l F H fun F1 H1 => RunsTo P G l' F1 H1 Q := by
  intro l
  induction l with
  | nil => intro l' F H; rfl
  | cons i l ih =>
    intro l' F H
    cases i with
    | ex s => exact ⟨StepTo.mono fun _ _ => ih.1, StepTo.mono fun _ _ => ih.2⟩
    | re s => exact ⟨fun p => ⟨p.1, ih.1 p.2⟩, fun p => ⟨p.1, ih.2 p.2⟩⟩

/-- the fence that asks nothing, in a round or not -/
def fw (ro : Option Nat) : Fence := { Fence.wide with round := ro }

section
variable {P : Program} {φ : Phi} {H H' : Heap} {w : World} {T : Ty} {N : Fns} {F F' : Fr} {G : Nat} {cf : CF} {ro : Option Nat} {nn : Nat}

theorem lall_iff {α : Type} {f : α → Bool} {l : List α} : lall f l = true ↔ ∀ x ∈ l, f x = true := by
  induction l with
  | nil => simp [lall]
  | cons a l ih =>
    have e : lall f (a :: l) = and (f a) (lall f l) := rfl
    rw [e, Bool.and_eq_true, ih]
    simp

theorem opdOk_in {n : Nat} {x : Operand} (h : opdOk G n x = true) : opdIn G n x := by
  cases x with
  | tmp t => exact (ble_le _ _).1 h
  | global g => exact (ble_le _ _).1 h
  | _ => trivial
theorem oper_rel {o : Oper} {a : Act} (h : operOk G a.tmps.size o = true) (hf : Rf φ F a.tmps) (hg : GlobOk G φ) : OpRel φ F a.eval o.op.operands.toList := by
  unfold operOk at h
  rw [Bool.and_eq_true] at h
  intro x hx f hfx
  exact opd_sound hf hg (opdOk_in (lall_iff.1 h.2 x hx)) hfx

/-- the guard -/
theorem want_core {ops : Array Oper} {a : Act} (o : Oper) {wb : Bool} (hwb : wantOf ops.toList o.guard F = some wb) (hf : ∀ j b t, o.guard = some (j, b) → dstOf ops.toList j = some t → t < a.tmps.size ∧ Rv φ (F.get V.undef t) (a.tmps.getD t undef)) :
    Region.wanted o (yielded ops a.tmps) = wb := by
  unfold wantOf at hwb
  unfold Region.wanted
  cases hgd : o.guard with
  | none =>
    rw [hgd] at hwb
    cases hwb
    rfl
  | some gb =>
    obtain ⟨j, b⟩ := gb
    rw [hgd] at hwb
    have hwb' : Option.casesOn (motive := fun _ => Fr → Option Bool) (dstOf ops.toList j) (fun _ => some false)
      (fun t F => guardV b (Tr.getP V.undef (path t) F)) F = some wb := hwb
    clear hwb
    have hr := hf j b
    simp only [dstOf, lget?_eq] at hwb' hr
    unfold yielded
    cases hj : ops[j]? with
    | none =>
      have : ops.toList[j]? = none := by simpa using hj
      rw [this] at hwb'
      cases hwb'
      simp [hj]
    | some oj =>
      have hj' : ops.toList[j]? = some oj := by simpa using hj
      rw [hj'] at hwb' hr
      simp only [obind] at hwb' hr
      cases hdst : oj.dst with
      | none =>
        rw [hdst] at hwb'
        cases hwb'
        simp [hj, hdst]
      | some t =>
        rw [hdst] at hwb'
        obtain ⟨ht', hv⟩ := hr t hgd hdst
        have e : a.tmps.getD t undef = a.tmps[t] := by simp [ht']
        have e2 : a.tmps[t]? = some a.tmps[t] := by simp [ht']
        rw [e] at hv
        simp only [hj, Option.bind_some, hdst, e2]
        have hwb2 : guardV b (F.get V.undef t) = some wb := hwb'
        generalize F.get V.undef t = u at hv hwb2
        generalize a.tmps[t] = u' at hv
        cases hv <;> first | (cases hwb2; done) | (cases hwb2; rfl) | skip
        rename_i x
        cases hwb2
        cases x <;> cases b <;> rfl
theorem want_ok {ops : Array Oper} {a : Act} (hd : ∀ o ∈ ops.toList, odOk a.tmps.size o.dst = true) (hf : Rf φ F a.tmps) (o : Oper) {wb : Bool} (hwb : wantOf ops.toList o.guard F = some wb) : Region.wanted o (yielded ops a.tmps) = wb := by
  refine want_core (φ := φ) o hwb (fun j b t _ h2 => ?_)
  obtain ⟨oj, hj, hdst⟩ := obind_some.1 (show obind (lget? ops.toList j) (fun o => o.dst) = some t from h2)
  rw [lget?_eq] at hj
  have ht := hd oj (List.mem_of_getElem? hj)
  rw [hdst] at ht
  have ht' : t < a.tmps.size := (ble_le _ _).1 ht
  exact ⟨ht', hf t ht'⟩

theorem put_size (a : Act) (d : Option Nat) (v : Value) : (a.put d v).tmps.size = a.tmps.size := by cases d <;> simp [Act.put]
theorem put_defers (a : Act) (d : Option Nat) (v : Value) : (a.put d v).defers = a.defers := by cases d <;> rfl

theorem callsFw {f : FuncId} {args : Array Value} {R : Ending → World → Prop} (h : Calls P f args w R) : CallsIn (fw ro) nn P f args w R := by
  have h' := (callsIn_wide (n := nn)).2 h
  exact ⟨trivial, fun cs hr => h'.2 cs (room_wide _)⟩
theorem roundFw {l : Nat} {f : FuncId} {tmps : Array Value} {assign body : Code} {R : Ending → World → Prop} (h : RoundIn Fence.wide 0 P l f tmps assign body w R) : RoundIn (fw ro) nn P l f tmps assign body w R :=
  ⟨trivial, fun c cs _ => h.2 c cs (room_wide _)⟩

theorem nxt_op {op : Op} {x : Fr → V} (hc : cop N T op = .nxt x) : ∃ y, op = .next y false ∧ opd y = some x := by
  cases op <;> simp only [cop, reduceCtorEq] at hc
  case next y isS =>
    obtain ⟨f, hf, hc⟩ := obind_some.1 (ofO_ne hc (by simp))
    cases isS <;> cases hc
    exact ⟨y, rfl, hf⟩
  case makeMap t q => cases q <;> cases hc
  case lookup t x i ok =>
    obtain ⟨_, _, hc⟩ := obind_some.1 (ofO_ne hc (by simp))
    obtain ⟨d, _, hc⟩ := obind_some.1 hc
    cases d <;> simp only [reduceCtorEq] at hc
    obtain ⟨_, _, hc⟩ := obind_some.1 hc
    obtain ⟨_, _, hc⟩ := obind_some.1 hc
    obtain ⟨_, _, hc⟩ := obind_some.1 hc
    obtain ⟨_, _, hc⟩ := obind_some.1 hc
    cases hc
  case mapUpdate t m k v =>
    obtain ⟨_, _, hc⟩ := obind_some.1 (ofO_ne hc (by simp))
    obtain ⟨d, _, hc⟩ := obind_some.1 hc
    cases d <;> simp only [reduceCtorEq] at hc
    obtain ⟨_, _, hc⟩ := obind_some.1 hc
    cases hc
  case insert t m k v =>
    obtain ⟨_, _, hc⟩ := obind_some.1 (ofO_ne hc (by simp))
    obtain ⟨d, _, hc⟩ := obind_some.1 hc
    cases d <;> simp only [reduceCtorEq] at hc
    obtain ⟨_, _, hc⟩ := obind_some.1 hc
    cases hc
  case range t x =>
    obtain ⟨_, _, hc⟩ := obind_some.1 (ofO_ne hc (by simp))
    obtain ⟨d, _, hc⟩ := obind_some.1 hc
    cases d <;> simp only [reduceCtorEq] at hc <;> cases hc
  case entry x =>
    obtain ⟨_, _, hc⟩ := obind_some.1 (ofO_ne hc (by simp))
    cases hc
  case call c =>
    obtain ⟨callee, oargs, ts⟩ := c
    have hc1 := ofO_ne hc (by simp)
    clear hc
    cases callee with
    | value x =>
      cases x <;> simp only [] at hc1
      case func ff =>
        obtain ⟨fn, _, hc1⟩ := obind_some.1 hc1
        obtain ⟨_, _, hc1⟩ := obind_some.1 hc1
        cases hb : fn.body with
        | none =>
          rw [hb] at hc1
          obtain ⟨_, hc1⟩ := oif_some.1 hc1
          obtain ⟨_, _, hc1⟩ := obind_some.1 hc1
          cases hc1
        | some b => rw [hb] at hc1; cases hc1
      all_goals
        obtain ⟨_, _, hc1⟩ := obind_some.1 hc1
        cases hc1
    | invoke x m => cases hc1
    | builtin bi =>
      obtain ⟨fs, hfs, hc1⟩ := obind_some.1 hc1
      have hc2 := ofO_ne (Option.some.inj hc1) (by simp)
      clear hc1
      obtain ⟨t, ht, hc2⟩ := obind_some.1 hc2
      obtain ⟨d, hd, hc2⟩ := obind_some.1 hc2
      cases bi <;> simp only [reduceCtorEq] at hc2
      case len => cases d <;> simp only [reduceCtorEq, Option.some.injEq] at hc2
      case cap => split at hc2 <;> cases hc2
      case max => cases hc2
      case min => cases hc2
      case append =>
        split at hc2
        · obtain ⟨_, _, hc2⟩ := obind_some.1 hc2
          obtain ⟨z, _, hc2⟩ := obind_some.1 hc2
          obtain ⟨_, _, hc2⟩ := obind_some.1 hc2
          obtain ⟨_, hc2⟩ := oif_some.1 hc2
          obtain ⟨_, hc2⟩ := oif_some.1 hc2
          cases hc2
        · cases hc2
      case copy =>
        split at hc2
        · obtain ⟨_, _, hc2⟩ := obind_some.1 hc2
          cases hc2
        · cases hc2
  case makeFunc fn a b =>
    cases fn <;> simp only [reduceCtorEq] at hc
    obtain ⟨_, _, hc⟩ := obind_some.1 (ofO_ne hc (by simp))
    cases hc
  case build t parts =>
    obtain ⟨_, _, hc⟩ := obind_some.1 (ofO_ne hc (by simp))
    obtain ⟨_, _, hc⟩ := obind_some.1 hc
    split at hc
    · obtain ⟨_, _, hc⟩ := obind_some.1 hc
      obtain ⟨_, _, hc⟩ := obind_some.1 hc
      cases hc
    · obtain ⟨_, _, hc⟩ := obind_some.1 hc
      obtain ⟨_, _, hc⟩ := obind_some.1 hc
      cases hc
    · cases hc
  case buildSlice t n parts =>
    obtain ⟨_, _, hc⟩ := obind_some.1 (ofO_ne hc (by simp))
    split at hc
    · obtain ⟨_, _, hc⟩ := obind_some.1 hc
      obtain ⟨_, hc⟩ := oif_some.1 hc
      obtain ⟨_, _, hc⟩ := obind_some.1 hc
      obtain ⟨_, _, hc⟩ := obind_some.1 hc
      obtain ⟨_, hc⟩ := oif_some.1 hc
      cases hc
    · cases hc
  case binOp op t x y yt =>
    obtain ⟨fs, hf, hc⟩ := obind_some.1 (ofO_ne hc (by simp))
    have hc' : binC T op t fs = .nxt _ := Option.some.inj hc
    unfold binC at hc'
    split at hc' <;> (try split at hc') <;> (try split at hc') <;> cases hc'
  case unOp op t x =>
    obtain ⟨_, _, hc⟩ := obind_some.1 (ofO_ne hc (by simp))
    cases op <;> cases hc
  case convert s d x =>
    obtain ⟨f, hf, hc⟩ := obind_some.1 (ofO_ne hc (by simp))
    have hc' : convC T s d [f] = .nxt _ := Option.some.inj hc
    unfold convC at hc'
    split at hc' <;> first | (cases hc'; done) | (split at hc' <;> cases hc')
  case move x => obtain ⟨_, _, hc⟩ := obind_some.1 (ofO_ne hc (by simp)); cases hc
  case assign x => obtain ⟨_, _, hc⟩ := obind_some.1 (ofO_ne hc (by simp)); cases hc
  case pick c x y => obtain ⟨_, _, hc⟩ := obind_some.1 (ofO_ne hc (by simp)); cases hc
  case alloc t => obtain ⟨_, _, hc⟩ := obind_some.1 (ofO_ne hc (by simp)); cases hc
  case box t x => obtain ⟨_, _, hc⟩ := obind_some.1 (ofO_ne hc (by simp)); cases hc
  case nilCheck x => obtain ⟨_, _, hc⟩ := obind_some.1 (ofO_ne hc (by simp)); cases hc
  case extract x i => obtain ⟨_, _, hc⟩ := obind_some.1 (ofO_ne hc (by simp)); cases hc
  case store t a v =>
    obtain ⟨_, _, hc⟩ := obind_some.1 (ofO_ne hc (by simp))
    obtain ⟨_, _, hc⟩ := obind_some.1 hc
    cases hc
  case load t a =>
    obtain ⟨_, _, hc⟩ := obind_some.1 (ofO_ne hc (by simp))
    obtain ⟨_, _, hc⟩ := obind_some.1 hc
    obtain ⟨_, _, hc⟩ := obind_some.1 hc
    cases hc
  case makeSlice t l c =>
    obtain ⟨_, _, hc⟩ := obind_some.1 (ofO_ne hc (by simp))
    obtain ⟨_, _, hc⟩ := obind_some.1 hc
    split at hc
    · obtain ⟨_, _, hc⟩ := obind_some.1 hc
      obtain ⟨_, _, hc⟩ := obind_some.1 hc
      obtain ⟨_, hc⟩ := oif_some.1 hc
      cases hc
    · cases hc
  case slice t x lo hi mx =>
    obtain ⟨_, _, hc⟩ := obind_some.1 (ofO_ne hc (by simp))
    obtain ⟨_, _, hc⟩ := obind_some.1 hc
    split at hc
    · cases hc
    · obtain ⟨_, _, hc⟩ := obind_some.1 hc
      cases hc
    · obtain ⟨_, _, hc⟩ := obind_some.1 hc
      cases hc
    · cases hc
  case fieldAddr s x f =>
    obtain ⟨_, _, hc⟩ := obind_some.1 (ofO_ne hc (by simp))
    obtain ⟨_, _, hc⟩ := obind_some.1 hc
    split at hc
    · obtain ⟨_, _, hc⟩ := obind_some.1 hc
      obtain ⟨_, _, hc⟩ := obind_some.1 hc
      obtain ⟨_, hc⟩ := oif_some.1 hc
      cases hc
    · cases hc
  case field s x f =>
    obtain ⟨_, _, hc⟩ := obind_some.1 (ofO_ne hc (by simp))
    obtain ⟨_, _, hc⟩ := obind_some.1 hc
    split at hc
    · obtain ⟨_, _, hc⟩ := obind_some.1 hc
      obtain ⟨_, _, hc⟩ := obind_some.1 hc
      obtain ⟨_, _, hc⟩ := obind_some.1 hc
      cases hc
    · cases hc
  case indexAddr t x i =>
    obtain ⟨_, _, hc⟩ := obind_some.1 (ofO_ne hc (by simp))
    obtain ⟨_, _, hc⟩ := obind_some.1 hc
    split at hc
    · obtain ⟨_, _, hc⟩ := obind_some.1 hc
      cases hc
    · obtain ⟨_, _, hc⟩ := obind_some.1 hc
      cases hc
    · cases hc
  case index t x i =>
    obtain ⟨_, _, hc⟩ := obind_some.1 (ofO_ne hc (by simp))
    obtain ⟨_, _, hc⟩ := obind_some.1 hc
    split at hc
    · cases hc
    · obtain ⟨_, _, hc⟩ := obind_some.1 hc
      obtain ⟨_, _, hc⟩ := obind_some.1 hc
      cases hc
    · cases hc
theorem not_defer {op : Op} (h : cop N T op ≠ .bad) : ∀ c, op ≠ .defer c := by
  rintro c rfl
  exact h rfl

theorem mem_without {i j : Nat} {l : List Nat} : j ∈ without i l ↔ j ∈ l ∧ j ≠ i := by
  unfold without
  induction l with
  | nil => simp [lfilter]
  | cons a l ih =>
    have e : lfilter (fun j => !(Nat.beq j i)) (a :: l) = Bool.casesOn (motive := fun _ => List Nat) (!(Nat.beq a i)) (lfilter (fun j => !(Nat.beq j i)) l) (a :: lfilter (fun j => !(Nat.beq j i)) l) := rfl
    rw [e]
    by_cases h : a = i
    · subst h
      have : Nat.beq a a = true := (beq_eq _ _).2 rfl
      simp only [this, Bool.not_true, ih, List.mem_cons]
      constructor
      · rintro ⟨h1, h2⟩; exact ⟨.inr h1, h2⟩
      · rintro ⟨h1 | h1, h2⟩
        · exact absurd h1 h2
        · exact ⟨h1, h2⟩
    · have : Nat.beq a i = false := Bool.eq_false_iff.2 (fun e => h ((beq_eq _ _).1 e))
      simp only [this, Bool.not_false, List.mem_cons, ih]
      constructor
      · rintro (h1 | ⟨h1, h2⟩)
        · exact ⟨.inl h1, h1 ▸ h⟩
        · exact ⟨.inr h1, h2⟩
      · rintro ⟨h1 | h1, h2⟩
        · exact .inl h1
        · exact .inr ⟨h1, h2⟩
theorem filter_mem {es : List (V × V)} {es' : List MapEntry} (he : MapOk φ es es') {e : MapEntry} (h : e ∈ es') : ∃ i k v, es[i]? = some (k, v) ∧ e.born = i ∧ Rv φ k e.key ∧ Rv φ v e.val := by
  obtain ⟨i, hi, rfl⟩ := List.mem_iff_getElem.1 h
  have hi' : i < es.length := by rw [← he.1]; exact hi
  have hkv : es[i]? = some (es[i].1, es[i].2) := List.getElem?_eq_getElem hi'
  obtain ⟨x, h1, h2, h3, h4⟩ := he.2 i _ _ hkv
  rw [List.getElem?_eq_getElem hi] at h1
  cases h1
  exact ⟨i, _, _, hkv, h4, h2, h3⟩
theorem next_run (hr : Rel φ H w) {b : Nat} {p : Value} (hp : Rv φ (.ptr b 0) p) {m since : Nat} {left : List Nat} {cur : Option Nat} {last : Nat} (h1 : H.get b = .oth (.iter m since left cur last)) {es : List (V × V)} (h2 : H.get m = .oth (.map es)) (ty : TypeId) :
    ∃ v v' H' w', (Instr.next p false ty).run P w = .ok v' w' ∧ Ext φ H w φ H' w' ∧ Rv φ v v' ∧ ((∃ i k x, es[i]? = some (k, x) ∧ (i ∈ left ∨ since ≤ i) ∧ v = .tup [.bool true, k, x] ∧ H' = H.set b (.oth (.iter m since (without i left) (some i) es.length))) ∨
      ((∀ i ∈ left, es.length ≤ i) ∧ v = .tup [.bool false] ∧ H' = H)) := by
  cases hp with
  | ptr hb =>
  rename_i l
  obtain ⟨hbase, lm, seen, g1, g2, g3, gcur, gl1, gl2⟩ := hr.oth hb h1
  obtain ⟨_, es', g4, g5⟩ := hr.oth g1 h2
  have hgo1 := run_getObj (P := P) g2 rfl
  have hgo2 := run_getObj (P := P) g4 rfl
  have hchk : (!(⟨seen⟩ : Array Nat).isEmpty && !(⟨es'⟩ : Array MapEntry).isEmpty && (⟨es'⟩ : Array MapEntry).all (fun e => decide (e.born ≥ last))) = false := by
    cases seen with
    | nil => simp
    | cons s0 ss =>
      have hl := g3 (by simp)
      cases es' with
      | nil => simp
      | cons e0 er =>
        obtain ⟨i, k, v, f1, f2, _⟩ := filter_mem g5 (e := e0) (by simp)
        have h0 := g5.1
        cases es with
        | nil => simp at h0
        | cons x0 xr =>
          obtain ⟨k0, v0⟩ := x0
          obtain ⟨y, y1, _, _, y4⟩ := g5.2 0 k0 v0 (by simp)
          simp at y1
          subst y1
          simp [y4]
          intro hh
          omega
  let leftA := (⟨es'⟩ : Array MapEntry).filter fun e => !(⟨seen⟩ : Array Nat).contains e.born
  let old := leftA.filter (fun e => decide (e.born < since))
  let new := leftA.filter (fun e => decide (e.born ≥ since))
  let cand : Array (Option MapEntry) := (if old.isEmpty then #[none] else #[]) ++ (old ++ new).map some
  have hcand0 : 0 < cand.size := by
    show 0 < ((if old.isEmpty then #[none] else #[]) ++ (old ++ new).map some : Array (Option MapEntry)).size
    by_cases h : old.isEmpty
    · simp [h]; omega
    · have : 0 < old.size := by
        rcases Nat.eq_zero_or_pos old.size with e | e
        · exact absurd (by simpa [Array.isEmpty] using e) h
        · exact e
      simp
      omega
  obtain ⟨j, w1, hj, hw1, hch⟩ : ∃ j w1, j < cand.size ∧ (∃ k, w1 = { w with drawn := w.drawn + k }) ∧ (choose (.mapNext cand.size)).run P w = .ok j w1 := by
    by_cases hf : (Question.mapNext cand.size).forced = true
    · exact ⟨0, w, hcand0, ⟨0, rfl⟩, by rw [run_choose_drew, if_pos hf]⟩
    · exact ⟨_, w.drew, Nat.mod_lt _ hcand0, ⟨1, rfl⟩, by rw [run_choose_drew, if_neg hf]; rfl⟩
  obtain ⟨kd, rfl⟩ := hw1
  have hrd := hr.drew kd
  have hextd : Ext φ H w φ H { w with drawn := w.drawn + kd } := ⟨hrd, Phi.le_refl φ, fun e1 e2 => absurd (e1.symm.trans e2) (by simp), fun _ _ _ => rfl, Nat.le_refl _, fun _ _ => rfl, Nat.le_refl _, ⟨rfl, rfl, rfl, fun h => h, fun _ cs _ _ h => ⟨cs, h, rfl⟩⟩, fun _ h => ⟨h, rfl⟩⟩
  obtain ⟨c, hc⟩ : ∃ c, cand[j]? = some c := ⟨cand[j], by simp [hj]⟩
  have hrun0 : (Instr.next (.pointer (some ⟨l.c, l.base + 0, none⟩)) false ty).run P w = (match (some c : Option (Option MapEntry)) with
      | some (some e) => (do setObj l.c (.mapIter (some lm.c) since ((⟨seen⟩ : Array Nat).push e.born) es.length); pure (.tuple #[.bool true, e.key, e.val]) : Sem Value)
      | some none => (pure (.tuple #[.bool false]) : Sem Value)
      | none => stuck "Next: no such candidate").run P { w with drawn := w.drawn + kd } := by
    simp only [Instr.next, hbase, Nat.add_zero, Sem.run_bind, hgo1, Result.andThen_ok, hgo2, hchk, Bool.false_eq_true, if_false]
    show ((choose (.mapNext cand.size)).run P w).andThen _ = _
    rw [hch]
    simp only [Result.andThen_ok]
    show (match cand[j]? with
      | some (some e) => (do setObj l.c (.mapIter (some lm.c) since ((⟨seen⟩ : Array Nat).push e.born) es.length); pure (.tuple #[.bool true, e.key, e.val]) : Sem Value)
      | some none => (pure (.tuple #[.bool false]) : Sem Value)
      | none => stuck "Next: no such candidate").run P { w with drawn := w.drawn + kd } = _
    rw [hc]
  have hcm : c ∈ cand := Array.mem_of_getElem? hc
  have hcm' : c ∈ ((if old.isEmpty then #[none] else #[]) ++ (old ++ new).map some : Array (Option MapEntry)) := hcm
  cases c with
  | none =>
    have hold : old.isEmpty = true := by
      by_cases h : old.isEmpty
      · exact h
      · simp [h] at hcm'
    refine ⟨.tup [.bool false], .tuple #[.bool false], H, _, ?_, hextd, .tup (.cons (.bool false) .nil), .inr ⟨?_, rfl, rfl⟩⟩
    · rw [hrun0]; simp
    · intro i hil
      obtain ⟨hi1, hns⟩ := gl2 i hil
      refine Nat.le_of_not_lt fun hi2 => ?_
      obtain ⟨x, y1, _, _, y4⟩ := g5.2 i es[i].1 es[i].2 (List.getElem?_eq_getElem hi2)
      have hx : x ∈ old := by
        have hxe : x ∈ es' := List.mem_of_getElem? y1
        show x ∈ (Array.filter _ (Array.filter _ ⟨es'⟩))
        simp [hxe, y4, hns, hi1]
      have : old = #[] := by simpa using hold
      rw [this] at hx
      simp at hx
  | some e =>
    have hel : e ∈ leftA := by
      have h1 : e ∈ old ∨ e ∈ new := by
        rcases Array.mem_append.1 hcm' with h | h
        · split at h <;> simp at h
        · simpa using h
      rcases h1 with h | h
      · exact (Array.mem_filter.1 h).1
      · exact (Array.mem_filter.1 h).1
    have hel' := Array.mem_filter.1 hel
    obtain ⟨i, k, v, f1, f2, f3, f4⟩ := filter_mem g5 (e := e) (by simpa using hel'.1)
    have hns : i ∉ seen := by
      have := hel'.2
      simp [f2] at this
      exact this
    have g2d : ({ w with drawn := w.drawn + kd } : World).heap[l.c]? = some (.mapIter (some lm.c) since ⟨seen⟩ last) := g2
    have hso := run_setObj (P := P) (o' := .mapIter (some lm.c) since ((⟨seen⟩ : Array Nat).push e.born) es.length) g2d rfl
    refine ⟨.tup [.bool true, k, v], .tuple #[.bool true, e.key, e.val], _, _, ?_, hextd.trans (ext_oth hrd hb h1 (o' := .iter m since (without i left) (some i) es.length) (x := .mapIter (some lm.c) since ((⟨seen⟩ : Array Nat).push e.born) es.length) ?_), .tup (.cons (.bool true) (.cons f3 (.cons f4 .nil))), .inl ⟨i, k, v, f1, (if hs : i < since then .inl (gl1 i hs hns) else .inr (Nat.le_of_not_lt hs)), rfl, rfl⟩⟩
    · rw [hrun0]
      simp only [Sem.run_bind, hso, Result.andThen_ok, Sem.run_pure]
    · refine ⟨lm, seen ++ [i], g1, ?_, fun _ => ?_, by simp, ?_, ?_⟩
      · rw [putO_at (hrd.loc hb), f2]
        simp
      · have := (List.getElem?_eq_some_iff.1 f1).1
        omega
      · intro j hj hjs
        have h1 : j ∉ seen ∧ j ≠ i := by simpa using hjs
        exact mem_without.2 ⟨gl1 j hj h1.1, h1.2⟩
      · intro j hj
        obtain ⟨h1, h2⟩ := mem_without.1 hj
        obtain ⟨h3, h4⟩ := gl2 j h1
        exact ⟨h3, by simp [h4, h2]⟩

theorem step_core {ops : Array Oper} {Q : Exit → Act → World → Prop} {i : Nat} {o : Oper} (hi : ops[i]? = some o) (hT : TOk P T) (hN : NOk P N) {a : Act}
    (ho : OpRel φ F a.eval o.op.operands.toList) (hwant : ∀ {wb : Bool}, (stepOf N T ops.toList o).want F = some wb → Region.wanted o (yielded ops a.tmps) = wb) (hr : Rel φ H w) (hg : GlobOk G φ) {K0 : Fr → Heap → Prop} (he : StepTo P G (stepOf N T ops.toList o) F H K0) {K : Act → World → Prop}
    (hfin : ∀ {v : V} {v' : Value} {ψ : Phi} {w' : World} {H' : Heap}, Ext φ H w ψ H' w' → Rv ψ v v' → K0 (put F o.dst v) H' → K (a.put o.dst v') w') : wpOpIn (fw ro) nn P ops Q i K a w := by
  have hρ : ∀ f, a.eval (.func f) = .func (.func f) #[] #[] := fun f => rfl
  unfold wpOpIn
  simp only [hi]
  rcases he with ⟨hwb, he⟩ | ⟨hwb, he⟩
  · have hwb := hwant hwb
    simp only [hwb, Bool.false_eq_true, if_false]
    exact ⟨fun _ _ => trivial, hfin (Ext.refl hr) (.tup .nil) he⟩
  · have hwb' := hwb
    have hwb := hwant hwb
    simp only [hwb, if_true]
    refine ⟨fun _ _ => trivial, ?_⟩
    have hsc : (stepOf N T ops.toList o).cop = cop N T o.op := rfl
    have hex : ∀ {F1 : Fr} {H1 : Heap}, exec noO (stepOf N T ops.toList o) F H = some (F1, H1) → (match cop N T o.op with
     | .bad => Option.none
     | .pu xs g => obind (g (vals xs F)) fun r => NR.casesOn (motive := fun _ => Option (Fr × Heap)) r (fun v => some (put F o.dst v, H)) (fun cs sh => some (put F o.dst (sh.mk H.next), H.push (.cells cs 0)))
     | .rd xs g => obind (g (vals xs F) H) fun v => some (put F o.dst v, H)
     | .eff xs g => obind (g (vals xs F) H) fun r => some (put F o.dst r.1, r.2)
     | .call xs g => obind (g (vals xs F)) fun c => obind (noO c.1 c.2 H) fun r => some (put F o.dst r.1, r.2)
     | .nxt _ => Option.none) = some (F1, H1) := by
      intro F1 H1 h
      unfold exec at h
      rw [hwb'] at h
      exact h
    rw [hsc] at he
    cases hc : cop N T o.op with
    | bad =>
      rw [hc] at he
      obtain ⟨F1, H1, h1, _⟩ := he
      have := hex h1
      rw [hc] at this
      cases this
    | pu xs g =>
      rw [Oper.semAt_eq _ _ _ (not_defer (N := N) (T := T) (by rw [hc]; simp))]
      rw [hc] at he
      obtain ⟨F1, H1, hx0, h2⟩ := he
      have he' := hex hx0
      clear hx0
      rw [hc] at he'
      obtain ⟨r, hr1, hr2⟩ := obind_some.1 he'
      have hp := pu_sound hT hN hρ o hc ho hr1 w
      cases r with
      | val v =>
        obtain ⟨v', h1, h3⟩ := hp
        cases hr2
        rw [h1]
        exact hfin (Ext.refl hr) h3 h2
      | new ob sh =>
        obtain ⟨v', w', lim, h1, h3, h4⟩ := hp
        cases hr2
        rw [h1]
        exact hfin (ext_new hr h3) (h4 _ _ (Phi.add_self _ _ _)) h2
    | rd xs g =>
      rw [Oper.semAt_eq _ _ _ (not_defer (N := N) (T := T) (by rw [hc]; simp))]
      rw [hc] at he
      obtain ⟨F1, H1, hx0, h2⟩ := he
      have he' := hex hx0
      clear hx0
      rw [hc] at he'
      obtain ⟨v, hr1, hr2⟩ := obind_some.1 he'
      cases hr2
      obtain ⟨v', h1, h3⟩ := rd_sound hT hr o hc ho hr1
      rw [h1]
      exact hfin (Ext.refl hr) h3 h2
    | eff xs g =>
      rw [Oper.semAt_eq _ _ _ (not_defer (N := N) (T := T) (by rw [hc]; simp))]
      rw [hc] at he
      obtain ⟨F1, H1, hx0, h2⟩ := he
      have he' := hex hx0
      clear hx0
      rw [hc] at he'
      obtain ⟨r, hr1, hr2⟩ := obind_some.1 he'
      cases hr2
      obtain ⟨nx, v', w', ψ, h1, h3, h4, h5⟩ := eff_sound hT hr o hc ho hr1
      rw [h1]
      rcases h3 with rfl | ⟨rfl, rfl⟩
      · exact hfin h4 h5 h2
      · exact hfin h4 h5 h2
    | call xs g =>
      rw [Oper.semAt_eq _ _ _ (not_defer (N := N) (T := T) (by rw [hc]; simp))]
      rw [hc] at he
      obtain ⟨t, args, h1, h2⟩ := he
      have hen := call_run (P := P) (w := w) hρ o hc ho h1
      cases t with
      | fn f =>
        obtain ⟨args', h3, h4⟩ := hen h2.1
        rw [h3]
        refine ⟨fun h => by simp [fw, Fence.wide] at h, callsFw ((h2.2 _ _ _ hr hg h4).mono ?_)⟩
        rintro e w' ⟨v, v', H1, ψ, rfl, h6, h7, h8⟩
        exact hfin h6 h7 h8
      | yld b =>
        obtain ⟨l, args', hl, h3, h4⟩ := hen
        obtain ⟨f, tmps, assign, body, h5, h6⟩ := h2 _ _ _ _ hr hg h4 hl
        rw [h3, h5]
        refine ⟨fun h => by simp [fw, Fence.wide] at h, roundFw (h6.mono ?_)⟩
        rintro e w' ⟨v, v', H1, ψ, rfl, h6, h7, h8⟩
        exact hfin h6 h7 h8
    | nxt x =>
      rw [Oper.semAt_eq _ _ _ (not_defer (N := N) (T := T) (by rw [hc]; simp))]
      rw [hc] at he
      obtain ⟨b, m, since, left, cur, last, es, g1, g2, g3, g4, g5⟩ := he
      obtain ⟨y, hy, hyx⟩ := nxt_op hc
      obtain ⟨dst, op, ty, pos, after, guard⟩ := o
      simp only at hy
      subst hy
      have hv := ho y (by simp [Op.operands]) x hyx
      rw [g1] at hv
      obtain ⟨v, v', H1, w', f1, f2, f3, f4⟩ := next_run (P := P) hr hv g2 g3 ty
      have hrun : (execOp a.eval ⟨dst, .next y false, ty, pos, after, guard⟩).run P w = .ok (.value v') w' := by
        simp only [execOp, Sem.run_bind, f1, Result.andThen_ok, Sem.run_pure]
      rw [hrun]
      rcases f4 with ⟨i', k, x', e1, e2, rfl, rfl⟩ | ⟨e1, rfl, rfl⟩
      · exact hfin f2 f3 (g4 i' k x' e1 e2)
      · exact hfin f2 f3 (g5 e1)

theorem step_ok {ops : Array Oper} {Q : Exit → Act → World → Prop} {i : Nat} {o : Oper} (hi : ops[i]? = some o) (hT : TOk P T) (hN : NOk P N) {a : Act}
    (hok : ∀ o ∈ ops.toList, operOk G a.tmps.size o = true) (hr : Rel φ H w) (hf : Rf φ F a.tmps) (hg : GlobOk G φ) {K0 : Fr → Heap → Prop} (he : StepTo P G (stepOf N T ops.toList o) F H K0) {K : Act → World → Prop}
    (hK : ∀ ψ a' w' F' H', Ext φ H w ψ H' w' → Rf ψ F' a'.tmps → a'.tmps.size = a.tmps.size → a'.defers = a.defers → K0 F' H' → K a' w') : wpOpIn (fw ro) nn P ops Q i K a w := by
  have hmem : o ∈ ops.toList := List.mem_of_getElem? (by simpa using hi)
  have ho := oper_rel (hok o hmem) hf hg
  have hw : ∀ {wb : Bool}, (stepOf N T ops.toList o).want F = some wb → Region.wanted o (yielded ops a.tmps) = wb := fun h => want_ok (fun o h => by have := hok o h; unfold operOk at this; rw [Bool.and_eq_true] at this; exact this.1) hf o h
  refine step_core hi hT hN ho hw hr hg he ?_
  intro v v' ψ w' H' h1 h2 h3
  exact hK ψ _ w' _ H' h1 ((hf.mono h1.le).put h2) (put_size _ _ _) (put_defers _ _ _) h3

theorem plain_ok {ops : Array Oper} {Q : Exit → Act → World → Prop} (hT : TOk P T) (hN : NOk P N) {n : Nat} (hok : ∀ o ∈ ops.toList, operOk G n o = true) {Q0 : Fr → Heap → Prop} :
    ∀ (l : List Oper) (k : Nat) (φ : Phi) (F : Fr) (H : Heap) (a : Act) (w : World), (∀ (j : Nat) (o : Oper), l[j]? = some o → ops[k + j]? = some o) → a.tmps.size = n → Rel φ H w → Rf φ F a.tmps → GlobOk G φ →
      RunsTo P G (lmap (fun o => Ins.ex (stepOf N T ops.toList o)) l) F H Q0 →
      (∀ ψ a' w' F' H', Ext φ H w ψ H' w' → Rf ψ F' a'.tmps → a'.tmps.size = n → a'.defers = a.defers → Q0 F' H' → Q .normal a' w') → wpOpsIn (fw ro) nn P ops Q (List.range' k l.length) a w := by
  intro l
  induction l with
  | nil =>
    intro k φ F H a w _ hn hr hf hg h hQ
    exact hQ φ a w F H (Ext.refl hr) hf hn rfl h
  | cons o l ih =>
    intro k φ F H a w hl hn hr hf hg h hQ
    have h' : StepTo P G (stepOf N T ops.toList o) F H fun F1 H1 => RunsTo P G (lmap (fun o => Ins.ex (stepOf N T ops.toList o)) l) F1 H1 Q0 := h
    rw [List.length_cons, List.range'_succ, wpOpsIn_cons]
    refine step_ok (hl 0 o (by simp)) hT hN (by rw [hn]; exact hok) hr hf hg h' ?_
    intro ψ a' w' F1 H1 e1 e2 e3 e4 e5
    refine ih (k + 1) ψ F1 H1 a' w' (fun j o' hj => by have := hl (j + 1) o' (by simpa using hj); rwa [show k + (j + 1) = k + 1 + j by omega] at this) (e3.trans hn) e1.rel e2 (hg.mono e1.le) e5 ?_
    intro χ b' u' F2 H2 f1 f2 f3 f4 f5
    exact hQ χ b' u' F2 H2 (e1.trans f1) f2 f3 (f4.trans e4) f5
end
end Go.Ev
/- The abstract evaluator, part Ac: what binds what in a region. -/
namespace Go.Ev

theorem hasBit_eq (m i : Nat) : hasBit m i = m.testBit i := by
  unfold hasBit
  rw [Nat.testBit_eq_decide_div_mod_eq, Bool.eq_iff_iff, beq_eq]
  have : Nat.shiftRight m i = m / 2 ^ i := Nat.shiftRight_eq_div_pow m i
  rw [this]
  simp
  exact Iff.rfl
theorem hasBit_lor (a b i : Nat) : hasBit (Nat.lor a b) i = true ↔ hasBit a i = true ∨ hasBit b i = true := by
  have e : Nat.lor a b = a ||| b := rfl
  rw [hasBit_eq, hasBit_eq, hasBit_eq, e, Nat.testBit_or, Bool.or_eq_true]
theorem hasBit_one (k i : Nat) : hasBit (Nat.shiftLeft 1 k) i = true ↔ k = i := by
  have e : Nat.shiftLeft 1 k = 2 ^ k := Nat.one_shiftLeft k
  rw [hasBit_eq, e, Nat.testBit_two_pow]
  simp
theorem hasBit_zero (i : Nat) : hasBit 0 i = false := by rw [hasBit_eq]; simp
theorem maskOf_bit (acc : List Nat) (es : List Edge) (j : Nat) : hasBit (maskOf acc es) j = true ↔ ∃ e ∈ es, bindsE e = true ∧ (e.on = j ∨ hasBit (lget 0 acc e.on) j = true) := by
  induction es with
  | nil =>
    have : maskOf acc [] = 0 := rfl
    rw [this, hasBit_zero]
    simp
  | cons e es ih =>
    have h : maskOf acc (e :: es) = Bool.casesOn (motive := fun _ => Nat) (bindsE e) (maskOf acc es) (Nat.lor (maskOf acc es) (Nat.lor (Nat.shiftLeft 1 e.on) (lget 0 acc e.on))) := rfl
    rw [h]
    cases hb : bindsE e with
    | false =>
      simp only [ih, List.mem_cons]
      constructor
      · rintro ⟨x, h1, h2⟩; exact ⟨x, .inr h1, h2⟩
      · rintro ⟨x, h1 | h1, h2⟩
        · subst h1; rw [hb] at h2; cases h2.1
        · exact ⟨x, h1, h2⟩
    | true =>
      simp only [hasBit_lor, hasBit_one, ih, List.mem_cons]
      constructor
      · rintro (⟨x, h1, h2⟩ | h1 | h1)
        · exact ⟨x, .inr h1, h2⟩
        · exact ⟨e, .inl rfl, hb, .inl h1⟩
        · exact ⟨e, .inl rfl, hb, .inr h1⟩
      · rintro ⟨x, h1 | h1, h2, h3⟩
        · subst h1; exact .inr h3
        · exact .inl ⟨x, h1, h2, h3⟩

theorem masks_spec : ∀ (ops : List Oper) (acc : List Nat), (masks ops acc).length = acc.length + ops.length ∧ (∀ i, i < acc.length → (masks ops acc)[i]? = acc[i]?) ∧
    ∀ (j : Nat) (o : Oper), ops[j]? = some o → (masks ops acc)[acc.length + j]? = some (maskOf ((masks ops acc).take (acc.length + j)) o.after.toList) := by
  intro ops
  induction ops with
  | nil =>
    intro acc
    have e : masks [] acc = acc := rfl
    rw [e]
    exact ⟨by simp, fun _ _ => rfl, fun j o h => by simp at h⟩
  | cons o ops ih =>
    intro acc
    have e : masks (o :: ops) acc = masks ops (lapp acc [maskOf acc o.after.toList]) := rfl
    rw [e, lapp_eq]
    obtain ⟨h1, h2, h3⟩ := ih (acc ++ [maskOf acc o.after.toList])
    have hl : (acc ++ [maskOf acc o.after.toList]).length = acc.length + 1 := by simp
    rw [hl] at h1 h2 h3
    refine ⟨by simp [h1]; omega, fun i hi => by rw [h2 i (by omega), List.getElem?_append_left hi], fun j o' hj => ?_⟩
    cases j with
    | zero =>
      simp at hj
      subst hj
      have ht : (masks ops (acc ++ [maskOf acc o.after.toList])).take (acc.length + 0) = acc := by
        apply List.ext_getElem?
        intro i
        by_cases hi : i < acc.length
        · rw [List.getElem?_take_of_lt (by omega), h2 i (by omega), List.getElem?_append_left hi]
        · rw [List.getElem?_eq_none (by simp; omega), List.getElem?_eq_none (by omega)]
      rw [ht, Nat.add_zero, h2 _ (by omega)]
      simp
    | succ j =>
      have := h3 j o' (by simpa using hj)
      rw [show acc.length + (j + 1) = acc.length + 1 + j by omega]
      exact this

/-- the mask of an operation -/
noncomputable def maskAt (ops : List Oper) (i : Nat) : Nat := lget 0 (masks ops []) i
def Pred (ops : List Oper) (i j : Nat) : Prop := hasBit (maskAt ops i) j = true

theorem edgesOk_spec : ∀ {ops : List Oper} {k : Nat}, edgesOk ops k = true → ∀ (j : Nat) (o : Oper), ops[j]? = some o → ∀ e ∈ o.after.toList, bindsE e = true → e.on < k + j := by
  intro ops
  induction ops with
  | nil => intro k _ j o h; simp at h
  | cons o ops ih =>
    intro k h j o' hj e he hb
    have h' : and (lall (fun e => or (!(bindsE e)) (Nat.ble (Nat.succ e.on) k)) o.after.toList) (edgesOk ops (k + 1)) = true := h
    rw [Bool.and_eq_true] at h'
    cases j with
    | zero =>
      simp at hj
      subst hj
      have := lall_iff.1 h'.1 e he
      rw [hb] at this
      have h3 := (ble_le _ _).1 (show Nat.ble (Nat.succ e.on) k = true by simpa using this)
      omega
    | succ j =>
      have := ih h'.2 j o' (by simpa using hj) e he hb
      omega

section
variable {ops : List Oper} (hE : edgesOk ops 0 = true)
include hE
theorem edge_lt {i : Nat} {o : Oper} (hi : ops[i]? = some o) {e : Edge} (he : e ∈ o.after.toList) (hb : bindsE e = true) : e.on < i := by
  have := edgesOk_spec hE i o hi e he hb
  omega
theorem pred_iff {i j : Nat} : Pred ops i j ↔ ∃ o, ops[i]? = some o ∧ ∃ e ∈ o.after.toList, bindsE e = true ∧ (e.on = j ∨ Pred ops e.on j) := by
  obtain ⟨h1, h2, h3⟩ := masks_spec ops []
  simp only [List.length_nil, Nat.zero_add] at h1 h3
  unfold Pred maskAt
  rw [lget_eq]
  cases hi : ops[i]? with
  | none =>
    have : (masks ops [])[i]? = none := by
      rw [List.getElem?_eq_none_iff] at hi ⊢
      omega
    rw [this]
    simp [hasBit_zero]
  | some o =>
    rw [h3 i o hi]
    simp only [Option.getD_some, maskOf_bit, Option.some.injEq, exists_eq_left']
    constructor
    · rintro ⟨e, he, hb, h⟩
      have hlt := edge_lt hE hi he hb
      refine ⟨e, he, hb, h.imp id (fun h => ?_)⟩
      rw [lget_eq, List.getElem?_take_of_lt hlt] at h
      rw [lget_eq]
      exact h
    · rintro ⟨e, he, hb, h⟩
      have hlt := edge_lt hE hi he hb
      refine ⟨e, he, hb, h.imp id (fun h => ?_)⟩
      rw [lget_eq, List.getElem?_take_of_lt hlt]
      rw [lget_eq] at h
      exact h
theorem pred_lt : ∀ {i j : Nat}, Pred ops i j → j < i := by
  intro i
  induction i using Nat.strongRecOn with
  | _ i ih =>
    intro j h
    obtain ⟨o, hi, e, he, hb, h⟩ := (pred_iff hE).1 h
    have hlt := edge_lt hE hi he hb
    rcases h with h | h
    · omega
    · have := ih _ hlt h
      omega
theorem pred_trans : ∀ {i j k : Nat}, Pred ops i j → Pred ops j k → Pred ops i k := by
  intro i
  induction i using Nat.strongRecOn with
  | _ i ih =>
    intro j k h h'
    obtain ⟨o, hi, e, he, hb, h⟩ := (pred_iff hE).1 h
    have hlt := edge_lt hE hi he hb
    refine (pred_iff hE).2 ⟨o, hi, e, he, hb, .inr ?_⟩
    rcases h with h | h
    · rw [h]; exact h'
    · exact ih _ hlt h h'
/-- what is listed, closed under what binds -/
def Closed (ops : List Oper) (L : Nat → Prop) : Prop := ∀ i o, L i → ops[i]? = some o → ∀ e ∈ o.after.toList, bindsE e = true → L e.on
omit hE in
theorem closed_pred (hE : edgesOk ops 0 = true) {L : Nat → Prop} (hL : Closed ops L) : ∀ {i j : Nat}, (∀ o, ops[i]? = some o → ∀ e ∈ o.after.toList, bindsE e = true → L e.on) → Pred ops i j → L j := by
  intro i
  induction i using Nat.strongRecOn with
  | _ i ih =>
    intro j hr h
    obtain ⟨o, hi, e, he, hb, h⟩ := (pred_iff hE).1 h
    have hlt := edge_lt hE hi he hb
    have hl := hr o hi e he hb
    rcases h with h | h
    · rw [← h]; exact hl
    · exact ih _ hlt (fun o' ho' e' he' hb' => hL _ o' hl ho' e' he' hb') h
end
end Go.Ev
/- The abstract evaluator, part Ad: an operation looks at its operands alone. -/
namespace Go.Ev
section
variable {N : Fns} {T : Ty}

theorem opds_congr {F F' : Fr} : ∀ {l : List Operand} {xs : List (Fr → V)}, opds l = some xs → (∀ t, Operand.tmp t ∈ l → F'.get V.undef t = F.get V.undef t) → vals xs F' = vals xs F := by
  intro l
  induction l with
  | nil => intro xs h _; cases h; rfl
  | cons x l ih =>
    intro xs h ht
    obtain ⟨f, hf, h⟩ := obind_some.1 (show obind (opd x) (fun f => obind (opds l) fun r => some (f :: r)) = some xs from h)
    obtain ⟨r, hr, h⟩ := obind_some.1 h
    cases h
    have h1 : f F' = f F := by
      cases x with
      | tmp t => cases hf; exact ht t (by simp)
      | const v =>
        obtain ⟨y, hy, hf⟩ := obind_some.1 (show obind (toV 20 v) (fun y => some (fun _ => y)) = some f from hf)
        cases hf; rfl
      | global g => cases hf; rfl
      | func g => cases hf; rfl
    show f F' :: vals r F' = f F :: vals r F
    rw [h1, ih hr (fun t h => ht t (by simp [h]))]
theorem opds_one {x : Operand} {f : Fr → V} (h : opd x = some f) : opds [x] = some [f] := by
  show obind (opd x) _ = _
  rw [h]; rfl

def Looks (op : Op) (xs : List (Fr → V)) : Prop := ∃ l, opds l = some xs ∧ ∀ x ∈ l, x ∈ op.operands.toList

theorem bin_xs {op : BinOp} {t : TypeId} {ys xs : List (Fr → V)} {g : List V → Option NR} (h : binC T op t ys = .pu xs g) : xs = ys := by
  unfold binC at h
  split at h <;> (try split at h) <;> (try split at h) <;> first | (cases h; done) | (cases h; rfl)
theorem conv_xs {s d : TypeId} {ys xs : List (Fr → V)} {g : List V → Option NR} (h : convC T s d ys = .pu xs g) : xs = ys := by
  unfold convC at h
  split at h <;> (try split at h) <;> first | (cases h; done) | (cases h; rfl)
theorem conv_xr {s d : TypeId} {ys xs : List (Fr → V)} {g : List V → Heap → Option V} (h : convC T s d ys = .rd xs g) : xs = ys := by
  unfold convC at h
  split at h <;> (try split at h) <;> first | (cases h; done) | (cases h; rfl)
theorem builtin_xs {b : Builtin} {ts : List TypeId} {ys xs : List (Fr → V)} {g : List V → Option NR} (h : builtinC T b ts ys = .pu xs g) : xs = ys := by
  have hc := ofO_ne h (by simp)
  obtain ⟨t, ht, hc⟩ := obind_some.1 hc
  obtain ⟨d, hd, hc⟩ := obind_some.1 hc
  cases b <;> simp only [reduceCtorEq] at hc
  case append =>
    split at hc
    · obtain ⟨i, _, hc⟩ := obind_some.1 hc
      obtain ⟨z, _, hc⟩ := obind_some.1 hc
      obtain ⟨zs, _, hc⟩ := obind_some.1 hc
      obtain ⟨_, hc⟩ := oif_some.1 hc
      obtain ⟨_, hc⟩ := oif_some.1 hc
      cases hc
    · cases hc
  case copy =>
    split at hc
    · obtain ⟨s, _, hc⟩ := obind_some.1 hc
      cases hc
    · cases hc
  case cap => split at hc <;> cases hc; rfl
  case len => split at hc <;> first | (cases hc; done) | (cases hc; rfl)
  case max => cases hc; rfl
  case min => cases hc; rfl

theorem pu_looks {op : Op} {xs : List (Fr → V)} {g : List V → Option NR} (hc : cop N T op = .pu xs g) : Looks op xs := by
  cases op <;> simp only [cop, reduceCtorEq] at hc
  case makeMap t q => cases q <;> cases hc
  case lookup t x i ok =>
    obtain ⟨_, _, hc⟩ := obind_some.1 (ofO_ne hc (by simp))
    obtain ⟨d, _, hc⟩ := obind_some.1 hc
    cases d <;> simp only [reduceCtorEq] at hc
    obtain ⟨_, _, hc⟩ := obind_some.1 hc
    obtain ⟨_, _, hc⟩ := obind_some.1 hc
    obtain ⟨_, _, hc⟩ := obind_some.1 hc
    obtain ⟨_, _, hc⟩ := obind_some.1 hc
    cases hc
  case mapUpdate t m k v =>
    obtain ⟨_, _, hc⟩ := obind_some.1 (ofO_ne hc (by simp))
    obtain ⟨d, _, hc⟩ := obind_some.1 hc
    cases d <;> simp only [reduceCtorEq] at hc
    obtain ⟨_, _, hc⟩ := obind_some.1 hc
    cases hc
  case insert t m k v =>
    obtain ⟨_, _, hc⟩ := obind_some.1 (ofO_ne hc (by simp))
    obtain ⟨d, _, hc⟩ := obind_some.1 hc
    cases d <;> simp only [reduceCtorEq] at hc
    obtain ⟨_, _, hc⟩ := obind_some.1 hc
    cases hc
  case range t x =>
    obtain ⟨_, _, hc⟩ := obind_some.1 (ofO_ne hc (by simp))
    obtain ⟨d, _, hc⟩ := obind_some.1 hc
    cases d <;> simp only [reduceCtorEq] at hc <;> cases hc
  case next x isS =>
    obtain ⟨_, _, hc⟩ := obind_some.1 (ofO_ne hc (by simp))
    cases isS <;> cases hc
  case entry x =>
    obtain ⟨_, _, hc⟩ := obind_some.1 (ofO_ne hc (by simp))
    cases hc
  case move x =>
    obtain ⟨f, hf, hc⟩ := obind_some.1 (ofO_ne hc (by simp))
    cases hc
    exact ⟨_, opds_one hf, by simp [Op.operands]⟩
  case assign x =>
    obtain ⟨f, hf, hc⟩ := obind_some.1 (ofO_ne hc (by simp))
    cases hc
  case pick c x y =>
    obtain ⟨fs, hf, hc⟩ := obind_some.1 (ofO_ne hc (by simp))
    cases hc
    exact ⟨_, hf, by simp [Op.operands]⟩
  case alloc t =>
    obtain ⟨zs, hz, hc⟩ := obind_some.1 (ofO_ne hc (by simp))
    cases hc
    exact ⟨[], rfl, by simp⟩
  case box t x =>
    obtain ⟨f, hf, hc⟩ := obind_some.1 (ofO_ne hc (by simp))
    cases hc
    exact ⟨_, opds_one hf, by simp [Op.operands]⟩
  case build t parts =>
    have h := ofO_ne hc (by simp)
    obtain ⟨zs, hz, h⟩ := obind_some.1 h
    obtain ⟨d, hd, h⟩ := obind_some.1 h
    split at h
    · obtain ⟨pl, hpl, h⟩ := obind_some.1 h
      obtain ⟨q, hp, h⟩ := obind_some.1 h
      cases h
      exact ⟨_, (placesOf_some hp).2.2, by simp [Op.operands]⟩
    · obtain ⟨s, hs, h⟩ := obind_some.1 h
      obtain ⟨q, hp, h⟩ := obind_some.1 h
      cases h
      exact ⟨_, (placesOf_some hp).2.2, by simp [Op.operands]⟩
    · cases h
  case buildSlice t n parts =>
    have h := ofO_ne hc (by simp)
    obtain ⟨d, hd, h⟩ := obind_some.1 h
    split at h
    · obtain ⟨s, hs, h⟩ := obind_some.1 h
      obtain ⟨hle, h⟩ := oif_some.1 h
      obtain ⟨zs, hz, h⟩ := obind_some.1 h
      obtain ⟨q, hp, h⟩ := obind_some.1 h
      obtain ⟨hsz, h⟩ := oif_some.1 h
      cases h
      exact ⟨_, (placesOf_some hp).2.2, by simp [Op.operands]⟩
    · cases h
  case load t a =>
    obtain ⟨f, hf, hc⟩ := obind_some.1 (ofO_ne hc (by simp))
    obtain ⟨_, _, hc⟩ := obind_some.1 hc
    obtain ⟨_, _, hc⟩ := obind_some.1 hc
    cases hc
  case store t a v =>
    obtain ⟨f, hf, hc⟩ := obind_some.1 (ofO_ne hc (by simp))
    obtain ⟨_, _, hc⟩ := obind_some.1 hc
    cases hc
  case nilCheck x =>
    obtain ⟨f, hf, hc⟩ := obind_some.1 (ofO_ne hc (by simp))
    cases hc
    exact ⟨_, opds_one hf, by simp [Op.operands]⟩
  case binOp op t x y yt =>
    obtain ⟨fs, hf, hc⟩ := obind_some.1 (ofO_ne hc (by simp))
    rw [bin_xs (Option.some.inj hc)]
    exact ⟨_, hf, by simp [Op.operands]⟩
  case unOp op t x =>
    obtain ⟨f, hf, hc⟩ := obind_some.1 (ofO_ne hc (by simp))
    cases op <;> simp only [reduceCtorEq] at hc
    · cases hc
      exact ⟨_, opds_one hf, by simp [Op.operands]⟩
    · cases hc
      exact ⟨_, opds_one hf, by simp [Op.operands]⟩
  case convert s d x =>
    obtain ⟨f, hf, hc⟩ := obind_some.1 (ofO_ne hc (by simp))
    rw [conv_xs (Option.some.inj hc)]
    exact ⟨_, opds_one hf, by simp [Op.operands]⟩
  case makeFunc fn first captured =>
    cases fn <;> simp only [reduceCtorEq] at hc
    obtain ⟨fs, hf, hc⟩ := obind_some.1 (ofO_ne hc (by simp))
    cases hc
    exact ⟨_, hf, by rw [lapp_eq]; simp [Op.operands]⟩
  case makeSlice t l c =>
    obtain ⟨fs, hf, hc⟩ := obind_some.1 (ofO_ne hc (by simp))
    obtain ⟨d, hd, hc⟩ := obind_some.1 hc
    split at hc
    · obtain ⟨i, hi, hc⟩ := obind_some.1 hc
      obtain ⟨zs, hz, hc⟩ := obind_some.1 hc
      obtain ⟨hs, hc⟩ := oif_some.1 hc
      cases hc
      exact ⟨_, hf, by simp [Op.operands]⟩
    · cases hc
  case slice t x lo hi mx =>
    obtain ⟨fs, hf, hc⟩ := obind_some.1 (ofO_ne hc (by simp))
    obtain ⟨d, hd, hc⟩ := obind_some.1 hc
    have hl : ∀ y ∈ x :: lapp (oget lo) (lapp (oget hi) (oget mx)), y ∈ (Op.slice t x lo hi mx).operands.toList := by
      cases lo <;> cases hi <;> cases mx <;> simp [Op.operands, oget, lapp_eq]
    split at hc
    · cases hc; exact ⟨_, hf, hl⟩
    · obtain ⟨s, hs, hc⟩ := obind_some.1 hc
      cases hc; exact ⟨_, hf, hl⟩
    · obtain ⟨s, hs, hc⟩ := obind_some.1 hc
      cases hc; exact ⟨_, hf, hl⟩
    · cases hc
  case fieldAddr s x f =>
    obtain ⟨p, hf, hc⟩ := obind_some.1 (ofO_ne hc (by simp))
    obtain ⟨d, hd, hc⟩ := obind_some.1 hc
    split at hc
    · obtain ⟨fd, hfd, hc⟩ := obind_some.1 hc
      obtain ⟨n, hn, hc⟩ := obind_some.1 hc
      obtain ⟨hz, hc⟩ := oif_some.1 hc
      cases hc
      exact ⟨_, opds_one hf, by simp [Op.operands]⟩
    · cases hc
  case field s x f =>
    obtain ⟨p, hf, hc⟩ := obind_some.1 (ofO_ne hc (by simp))
    obtain ⟨d, hd, hc⟩ := obind_some.1 hc
    split at hc
    · obtain ⟨fd, hfd, hc⟩ := obind_some.1 hc
      obtain ⟨n, hn, hc⟩ := obind_some.1 hc
      obtain ⟨g, hg, hc⟩ := obind_some.1 hc
      cases hc
      exact ⟨_, opds_one hf, by simp [Op.operands]⟩
    · cases hc
  case indexAddr t x i =>
    obtain ⟨fs, hf, hc⟩ := obind_some.1 (ofO_ne hc (by simp))
    obtain ⟨d, hd, hc⟩ := obind_some.1 hc
    split at hc
    · obtain ⟨s, hs, hc⟩ := obind_some.1 hc
      cases hc; exact ⟨_, hf, by simp [Op.operands]⟩
    · obtain ⟨s, hs, hc⟩ := obind_some.1 hc
      cases hc; exact ⟨_, hf, by simp [Op.operands]⟩
    · cases hc
  case index t x i =>
    obtain ⟨fs, hf, hc⟩ := obind_some.1 (ofO_ne hc (by simp))
    obtain ⟨d, hd, hc⟩ := obind_some.1 hc
    split at hc
    · cases hc; exact ⟨_, hf, by simp [Op.operands]⟩
    · obtain ⟨s, hs, hc⟩ := obind_some.1 hc
      obtain ⟨g, hg, hc⟩ := obind_some.1 hc
      cases hc; exact ⟨_, hf, by simp [Op.operands]⟩
    · cases hc
  case extract x i =>
    obtain ⟨f, hf, hc⟩ := obind_some.1 (ofO_ne hc (by simp))
    cases hc
    exact ⟨_, opds_one hf, by simp [Op.operands]⟩
  case call c =>
    obtain ⟨callee, args, ts⟩ := c
    have hc1 := ofO_ne hc (by simp)
    clear hc
    have hl : ∀ y ∈ args.toList, y ∈ (Op.call ⟨callee, args, ts⟩).operands.toList := by
      intro y hy
      simp [Op.operands, Call.operands]
      exact .inr (by simpa using hy)
    cases callee with
    | value x =>
      cases x <;> simp only [] at hc1
      case func f =>
        obtain ⟨fn, hfn, hc1⟩ := obind_some.1 hc1
        obtain ⟨fs, hf, hc1⟩ := obind_some.1 hc1
        cases hb : fn.body with
        | some c => rw [hb] at hc1; cases hc1
        | none =>
          rw [hb] at hc1
          obtain ⟨hor, hc1⟩ := oif_some.1 hc1
          obtain ⟨g', hg', hc1⟩ := obind_some.1 hc1
          cases hc1
          exact ⟨_, hf, hl⟩
      all_goals
        obtain ⟨fs, hf, hc1⟩ := obind_some.1 hc1
        cases hc1
    | invoke x m => cases hc1
    | builtin b =>
      obtain ⟨fs, hf, hc1⟩ := obind_some.1 hc1
      rw [builtin_xs (Option.some.inj hc1)]
      exact ⟨_, hf, hl⟩
end
end Go.Ev
/- The abstract evaluator, part Ae: the reads. -/
namespace Go.Ev
section
variable {N : Fns} {T : Ty}
theorem rd_form {op : Op} {xs : List (Fr → V)} {g : List V → Heap → Option V} (hc : cop N T op = .rd xs g) :
    ∃ l, opds l = some xs ∧ (∀ x ∈ l, x ∈ op.operands.toList) ∧ ((∃ ga n, g = loadG ga n) ∨ g = toStrG ∨ (∃ f z ok, g = lookupG f z ok) ∨ g = lenMapG ∨ g = entryG) := by
  cases op <;> simp only [cop, reduceCtorEq] at hc
  case load t a =>
    obtain ⟨f, hf, hc⟩ := obind_some.1 (ofO_ne hc (by simp))
    obtain ⟨ga, hg, hc⟩ := obind_some.1 hc
    obtain ⟨n, hn, hc⟩ := obind_some.1 hc
    cases hc
    exact ⟨[a], opds_one hf, by simp [Op.operands], .inl ⟨ga, n, rfl⟩⟩
  case convert s d x =>
    obtain ⟨f, hf, hc⟩ := obind_some.1 (ofO_ne hc (by simp))
    have hc' : convC T s d [f] = .rd xs g := Option.some.inj hc
    unfold convC at hc'
    split at hc' <;> first | (cases hc'; done) | skip
    · split at hc' <;> cases hc'
    · split at hc'
      · cases hc'
        exact ⟨[x], opds_one hf, by simp [Op.operands], .inr (.inl rfl)⟩
      · cases hc'
  case makeFunc fn a b =>
    cases fn <;> simp only [reduceCtorEq] at hc
    obtain ⟨_, _, hc⟩ := obind_some.1 (ofO_ne hc (by simp))
    cases hc
  case build t parts =>
    obtain ⟨_, _, hc⟩ := obind_some.1 (ofO_ne hc (by simp))
    obtain ⟨_, _, hc⟩ := obind_some.1 hc
    split at hc
    · obtain ⟨_, _, hc⟩ := obind_some.1 hc
      obtain ⟨_, _, hc⟩ := obind_some.1 hc
      cases hc
    · obtain ⟨_, _, hc⟩ := obind_some.1 hc
      obtain ⟨_, _, hc⟩ := obind_some.1 hc
      cases hc
    · cases hc
  case buildSlice t n parts =>
    obtain ⟨_, _, hc⟩ := obind_some.1 (ofO_ne hc (by simp))
    split at hc
    · obtain ⟨_, _, hc⟩ := obind_some.1 hc
      obtain ⟨_, hc⟩ := oif_some.1 hc
      obtain ⟨_, _, hc⟩ := obind_some.1 hc
      obtain ⟨_, _, hc⟩ := obind_some.1 hc
      obtain ⟨_, hc⟩ := oif_some.1 hc
      cases hc
    · cases hc
  case binOp op t x y yt =>
    obtain ⟨fs, hf, hc⟩ := obind_some.1 (ofO_ne hc (by simp))
    have hc' : binC T op t fs = .rd xs g := Option.some.inj hc
    unfold binC at hc'
    split at hc' <;> (try split at hc') <;> (try split at hc') <;> cases hc'
  case call c =>
    obtain ⟨callee, oargs, ts⟩ := c
    have hc1 := ofO_ne hc (by simp)
    clear hc
    cases callee with
    | value x =>
      cases x <;> simp only [] at hc1
      case func ff =>
        obtain ⟨fn, _, hc1⟩ := obind_some.1 hc1
        obtain ⟨_, _, hc1⟩ := obind_some.1 hc1
        cases hb : fn.body with
        | none =>
          rw [hb] at hc1
          obtain ⟨_, hc1⟩ := oif_some.1 hc1
          obtain ⟨_, _, hc1⟩ := obind_some.1 hc1
          cases hc1
        | some b => rw [hb] at hc1; cases hc1
      all_goals
        obtain ⟨_, _, hc1⟩ := obind_some.1 hc1
        cases hc1
    | invoke x m => cases hc1
    | builtin bi =>
      obtain ⟨fs, hfs, hc1⟩ := obind_some.1 hc1
      have hc2 := ofO_ne (Option.some.inj hc1) (by simp)
      clear hc1
      obtain ⟨t, ht, hc2⟩ := obind_some.1 hc2
      obtain ⟨d, hd, hc2⟩ := obind_some.1 hc2
      cases bi <;> simp only [reduceCtorEq] at hc2
      case len =>
        cases d <;> simp only [reduceCtorEq, Option.some.injEq, Cop.rd.injEq] at hc2
        obtain ⟨rfl, rfl⟩ := hc2
        exact ⟨_, hfs, by simp [Op.operands, Call.operands], .inr (.inr (.inr (.inl rfl)))⟩
      case cap => split at hc2 <;> cases hc2
      case max => cases hc2
      case min => cases hc2
      case append =>
        split at hc2
        · obtain ⟨_, _, hc2⟩ := obind_some.1 hc2
          obtain ⟨z, _, hc2⟩ := obind_some.1 hc2
          obtain ⟨_, _, hc2⟩ := obind_some.1 hc2
          obtain ⟨_, hc2⟩ := oif_some.1 hc2
          obtain ⟨_, hc2⟩ := oif_some.1 hc2
          cases hc2
        · cases hc2
      case copy =>
        split at hc2
        · obtain ⟨_, _, hc2⟩ := obind_some.1 hc2
          cases hc2
        · cases hc2
  case makeMap t q => cases q <;> cases hc
  case lookup t x i ok =>
    obtain ⟨fs, hf, hc⟩ := obind_some.1 (ofO_ne hc (by simp))
    obtain ⟨d, _, hc⟩ := obind_some.1 hc
    cases d <;> simp only [reduceCtorEq] at hc
    obtain ⟨f, _, hc⟩ := obind_some.1 hc
    obtain ⟨_, _, hc⟩ := obind_some.1 hc
    obtain ⟨_, _, hc⟩ := obind_some.1 hc
    obtain ⟨z, _, hc⟩ := obind_some.1 hc
    cases hc
    exact ⟨_, hf, by simp [Op.operands], .inr (.inr (.inl ⟨f, z, ok, rfl⟩))⟩
  case mapUpdate t m k v =>
    obtain ⟨_, _, hc⟩ := obind_some.1 (ofO_ne hc (by simp))
    obtain ⟨d, _, hc⟩ := obind_some.1 hc
    cases d <;> simp only [reduceCtorEq] at hc
    obtain ⟨_, _, hc⟩ := obind_some.1 hc
    cases hc
  case insert t m k v =>
    obtain ⟨_, _, hc⟩ := obind_some.1 (ofO_ne hc (by simp))
    obtain ⟨d, _, hc⟩ := obind_some.1 hc
    cases d <;> simp only [reduceCtorEq] at hc
    obtain ⟨_, _, hc⟩ := obind_some.1 hc
    cases hc
  case range t x =>
    obtain ⟨_, _, hc⟩ := obind_some.1 (ofO_ne hc (by simp))
    obtain ⟨d, _, hc⟩ := obind_some.1 hc
    cases d <;> simp only [reduceCtorEq] at hc <;> cases hc
  case next x isS =>
    obtain ⟨_, _, hc⟩ := obind_some.1 (ofO_ne hc (by simp))
    cases isS <;> cases hc
  case entry x =>
    obtain ⟨f, hf, hc⟩ := obind_some.1 (ofO_ne hc (by simp))
    cases hc
    exact ⟨[x], opds_one hf, by simp [Op.operands], .inr (.inr (.inr (.inr rfl)))⟩
  case move x =>
    obtain ⟨_, _, hc⟩ := obind_some.1 (ofO_ne hc (by simp))
    cases hc
  case assign x =>
    obtain ⟨_, _, hc⟩ := obind_some.1 (ofO_ne hc (by simp))
    cases hc
  case pick c x y =>
    obtain ⟨_, _, hc⟩ := obind_some.1 (ofO_ne hc (by simp))
    cases hc
  case alloc t =>
    obtain ⟨_, _, hc⟩ := obind_some.1 (ofO_ne hc (by simp))
    cases hc
  case box t x =>
    obtain ⟨_, _, hc⟩ := obind_some.1 (ofO_ne hc (by simp))
    cases hc
  case nilCheck x =>
    obtain ⟨_, _, hc⟩ := obind_some.1 (ofO_ne hc (by simp))
    cases hc
  case extract x i =>
    obtain ⟨_, _, hc⟩ := obind_some.1 (ofO_ne hc (by simp))
    cases hc
  case store t a v =>
    obtain ⟨_, _, hc⟩ := obind_some.1 (ofO_ne hc (by simp))
    obtain ⟨_, _, hc⟩ := obind_some.1 hc
    cases hc
  case unOp op t x =>
    obtain ⟨_, _, hc⟩ := obind_some.1 (ofO_ne hc (by simp))
    cases op <;> cases hc
  case makeSlice t l c =>
    obtain ⟨_, _, hc⟩ := obind_some.1 (ofO_ne hc (by simp))
    obtain ⟨_, _, hc⟩ := obind_some.1 hc
    split at hc
    · obtain ⟨_, _, hc⟩ := obind_some.1 hc
      obtain ⟨_, _, hc⟩ := obind_some.1 hc
      obtain ⟨_, hc⟩ := oif_some.1 hc
      cases hc
    · cases hc
  case slice t x lo hi mx =>
    obtain ⟨_, _, hc⟩ := obind_some.1 (ofO_ne hc (by simp))
    obtain ⟨_, _, hc⟩ := obind_some.1 hc
    split at hc
    · cases hc
    · obtain ⟨_, _, hc⟩ := obind_some.1 hc
      cases hc
    · obtain ⟨_, _, hc⟩ := obind_some.1 hc
      cases hc
    · cases hc
  case fieldAddr s x f =>
    obtain ⟨_, _, hc⟩ := obind_some.1 (ofO_ne hc (by simp))
    obtain ⟨_, _, hc⟩ := obind_some.1 hc
    split at hc
    · obtain ⟨_, _, hc⟩ := obind_some.1 hc
      obtain ⟨_, _, hc⟩ := obind_some.1 hc
      obtain ⟨_, hc⟩ := oif_some.1 hc
      cases hc
    · cases hc
  case field s x f =>
    obtain ⟨_, _, hc⟩ := obind_some.1 (ofO_ne hc (by simp))
    obtain ⟨_, _, hc⟩ := obind_some.1 hc
    split at hc
    · obtain ⟨_, _, hc⟩ := obind_some.1 hc
      obtain ⟨_, _, hc⟩ := obind_some.1 hc
      obtain ⟨_, _, hc⟩ := obind_some.1 hc
      cases hc
    · cases hc
  case indexAddr t x i =>
    obtain ⟨_, _, hc⟩ := obind_some.1 (ofO_ne hc (by simp))
    obtain ⟨_, _, hc⟩ := obind_some.1 hc
    split at hc
    · obtain ⟨_, _, hc⟩ := obind_some.1 hc
      cases hc
    · obtain ⟨_, _, hc⟩ := obind_some.1 hc
      cases hc
    · cases hc
  case index t x i =>
    obtain ⟨_, _, hc⟩ := obind_some.1 (ofO_ne hc (by simp))
    obtain ⟨_, _, hc⟩ := obind_some.1 hc
    split at hc
    · cases hc
    · obtain ⟨_, _, hc⟩ := obind_some.1 hc
      obtain ⟨_, _, hc⟩ := obind_some.1 hc
      cases hc
    · cases hc

theorem rd_looks {op : Op} {xs : List (Fr → V)} {g : List V → Heap → Option V} (hc : cop N T op = .rd xs g) : Looks op xs := by
  obtain ⟨l, h1, h3, _⟩ := rd_form hc
  exact ⟨l, h1, h3⟩

/-- a block more does not change what was read -/
theorem cells_push {H : Heap} (ht : ∀ b, H.next ≤ b → H.get b = .none) {ob : AObj} {b : Nat} {cs : List V} (h : H.cells? b = some cs) : (H.push ob).cells? b = some cs := by
  obtain ⟨g, h1, h2⟩ := cells?_some h
  have hlt : ∀ {x : Nat}, H.get x ≠ .none → H.next ≠ x := fun {x} hx e => hx (ht x (by omega))
  have e1 : (H.push ob).get b = .cells cs g := by rw [Heap.get_push, if_neg (hlt (by rw [h1]; simp))]; exact h1
  have e2 : (H.push ob).lives b g = true := by
    rcases lives_iff.1 h2 with e | ⟨a, c, e, e'⟩
    · exact lives_iff.2 (.inl e)
    · exact lives_iff.2 (.inr ⟨a, c, by rw [Heap.get_push, if_neg (hlt (by rw [e]; simp))]; exact e, e'⟩)
  unfold Heap.cells?
  rw [e1]
  show oif ((H.push ob).lives b g) (some cs) = some cs
  rw [e2]
  rfl
theorem rd_push {op : Op} {xs : List (Fr → V)} {g : List V → Heap → Option V} (hc : cop N T op = .rd xs g) {H : Heap} (ht : ∀ b, H.next ≤ b → H.get b = .none) {ob : AObj} {l : List V} {v : V} (h : g l H = some v) : g l (H.push ob) = some v := by
  obtain ⟨_, _, _, h4⟩ := rd_form hc
  have hlt : ∀ {x : Nat}, H.get x ≠ .none → H.next ≠ x := fun {x} hx e => hx (ht x (by omega))
  have hM : ∀ {b : Nat} {es : List (V × V)}, H.map? b = some es → (H.push ob).map? b = some es := by
    intro b es h
    have h1 := map?_some h
    unfold Heap.map?
    rw [Heap.get_push, if_neg (hlt (by rw [h1]; simp)), h1]
  have hN : ∀ {b o n : Nat} {vs : List V}, H.loadN b o n = some vs → (H.push ob).loadN b o n = some vs := by
    intro b o n vs h
    obtain ⟨cs, h1, h2⟩ := obind_some.1 h
    exact obind_some.2 ⟨cs, cells_push ht h1, h2⟩
  have h1 : ∀ {b o : Nat} {v : V}, H.load b o = some v → (H.push ob).load b o = some v := by
    intro b o v h
    obtain ⟨cs, h1, h2⟩ := obind_some.1 h
    exact obind_some.2 ⟨cs, cells_push ht h1, h2⟩
  rcases h4 with ⟨ga, n, rfl⟩ | rfl | ⟨f, z, ok, rfl⟩ | rfl | rfl
  · unfold loadG at h ⊢
    split at h
    · cases ga with
      | false => exact h1 h
      | true =>
        obtain ⟨cs, e1, e2⟩ := obind_some.1 h
        exact obind_some.2 ⟨cs, hN e1, e2⟩
    · cases h
  · unfold toStrG at h ⊢
    split at h
    · exact h
    · exact h
    · obtain ⟨cs, e1, e2⟩ := obind_some.1 h
      exact obind_some.2 ⟨cs, hN e1, e2⟩
    · cases h
  · unfold lookupG at h ⊢
    split at h
    · obtain ⟨q, e1, h⟩ := obind_some.1 h
      refine obind_some.2 ⟨q, e1, ?_⟩
      split at h
      · exact h
      · obtain ⟨es, e2, h⟩ := obind_some.1 h
        exact obind_some.2 ⟨es, hM e2, h⟩
      · cases h
    · cases h
  · unfold lenMapG at h ⊢
    split at h
    · exact h
    · obtain ⟨es, e2, h⟩ := obind_some.1 h
      exact obind_some.2 ⟨es, hM e2, h⟩
    · cases h
  · unfold entryG at h ⊢
    split at h
    · split at h
      · rename_i b m s seen last hb
        rw [Heap.get_push, if_neg (hlt (by rw [hb]; simp)), hb]
        obtain ⟨es, e2, h⟩ := obind_some.1 h
        exact obind_some.2 ⟨es, hM e2, h⟩
      · cases h
    · cases h
end
end Go.Ev
/- The abstract evaluator, part Af: operations that stand out; the operations of one stage. -/
namespace Go.Ev
theorem lall2_sound {α : Type} {f : α → α → Bool} (hf : ∀ a b, f a b = true → a = b) : ∀ l m, lall2 f l m = true → l = m := by
  intro l
  induction l with
  | nil => intro m h; cases m with
    | nil => rfl
    | cons => cases h
  | cons a l ih => intro m h; cases m with
    | nil => cases h
    | cons b m =>
      have h' : and (f a b) (lall2 f l m) = true := h
      rw [Bool.and_eq_true] at h'
      rw [hf a b h'.1, ih m h'.2]
theorem caeq_sound {a b : Cap} (h : caeq a b = true) : a = b := by
  cases a <;> cases b <;> first | (cases h; done) | rfl | (rw [(beq_eq _ _).1 h])
theorem veq_sound : ∀ n a b, veq n a b = true → a = b := by
  intro n
  induction n with
  | zero => intro a b h; cases h
  | succ n ih =>
    intro a b h
    cases a <;> cases b <;> first | (cases h; done) | skip
    · rename_i x y
      cases x <;> cases y <;> first | rfl | cases h
    · rename_i k x l y
      have h' : and (keq k l) (ieq x y) = true := h
      rw [Bool.and_eq_true, keq_eq, ieq_eq, decide_eq_true_eq, decide_eq_true_eq] at h'
      rw [h'.1, h'.2]
    · rename_i x y
      rw [lall2_sound (f := ueq) (fun a b h => by rw [ueq_eq] at h; simpa using h) x y h]
    · rename_i x y z t
      have h' : and (Nat.beq x z) (Nat.beq y t) = true := h
      rw [Bool.and_eq_true, beq_eq, beq_eq] at h'
      rw [h'.1, h'.2]
    · rfl
    · rename_i p q r s x y z t
      have h' : and (and (Nat.beq p x) (Nat.beq q y)) (and (Nat.beq r z) (caeq s t)) = true := h
      rw [Bool.and_eq_true, Bool.and_eq_true, Bool.and_eq_true, beq_eq, beq_eq, beq_eq] at h'
      rw [h'.1.1, h'.1.2, h'.2.1, caeq_sound h'.2.2]
    · rfl
    · rfl
    · rename_i x y
      rw [(beq_eq _ _).1 h]
    · rfl
    · rename_i f x y g z t
      have h' : and (Nat.beq f g) (and (lall2 (veq n) x z) (lall2 (veq n) y t)) = true := h
      rw [Bool.and_eq_true, Bool.and_eq_true, beq_eq] at h'
      rw [h'.1, lall2_sound ih _ _ h'.2.1, lall2_sound ih _ _ h'.2.2]
    · rfl
    · rename_i x y z t
      have h' : and (Nat.beq x z) (veq n y t) = true := h
      rw [Bool.and_eq_true, beq_eq] at h'
      rw [h'.1, ih _ _ h'.2]
    · rfl
    · rename_i x y
      rw [lall2_sound ih _ _ h]
    · rename_i x y
      rw [lall2_sound ih _ _ h]
    · rename_i x y
      rw [(beq_eq _ _).1 h]

section
variable {N : Fns} {T : Ty} {ol : List Oper} {B : Nat}

/-- executed in the abstract, not yet in the world: once more it would give what it gave -/
def Pend (N : Fns) (T : Ty) (ol : List Oper) (B : Nat) (o : Oper) (F : Fr) (H : Heap) (φ : Phi) : Prop :=
  ∃ t, o.dst = some t ∧
  ((wantOf ol o.guard F = some false ∧ F.get V.undef t = V.undef) ∨
   (wantOf ol o.guard F = some true ∧ ∃ xs g r, cop N T o.op = .pu xs g ∧ g (vals xs F) = some r ∧
      ((∃ v, r = .val v ∧ F.get V.undef t = v) ∨ (∃ cs sh id, r = .new cs sh ∧ F.get V.undef t = sh.mk id ∧ H.get id = .cells cs 0 ∧ φ id = none ∧ id < H.next ∧ B ≤ id))) ∨
   (wantOf ol o.guard F = some true ∧ ∃ xs g, cop N T o.op = .rd xs g ∧ g (vals xs F) H = some (F.get V.undef t)))

theorem lany_iff {α : Type} {f : α → Bool} {l : List α} : lany f l = true ↔ ∃ x ∈ l, f x = true := by
  induction l with
  | nil => simp [lany]
  | cons a l ih =>
    have e : lany f (a :: l) = or (f a) (lany f l) := rfl
    rw [e, Bool.or_eq_true, ih]
    simp
theorem odEq_iff {t : Nat} {d : Option Nat} : odEq t d = true ↔ d = some t := by
  cases d with
  | none => simp [odEq]
  | some u => exact ⟨fun h => by rw [(beq_eq _ _).1 h], fun h => by cases h; exact (beq_eq _ _).2 rfl⟩
theorem reads_tmp {o : Oper} {t : Nat} (h : Operand.tmp t ∈ o.op.operands.toList) : reads ol o t = true := by
  unfold reads
  rw [Bool.or_eq_true]
  exact .inl (lany_iff.2 ⟨_, h, (beq_eq _ _).2 rfl⟩)
theorem want_congr {o : Oper} {F F' : Fr} (h : ∀ t, reads ol o t = true → F'.get V.undef t = F.get V.undef t) : wantOf ol o.guard F' = wantOf ol o.guard F := by
  unfold wantOf
  cases hg : o.guard with
  | none => rfl
  | some gb =>
    obtain ⟨j, b⟩ := gb
    simp only []
    cases hd : dstOf ol j with
    | none => rfl
    | some t =>
      have : reads ol o t = true := by
        unfold reads
        rw [Bool.or_eq_true, hg]
        exact .inr (by simp only [hd]; exact odEq_iff.2 rfl)
      have e : Tr.getP V.undef (path t) F' = Tr.getP V.undef (path t) F := h t this
      dsimp only
      rw [e]
theorem looks_congr {o : Oper} {xs : List (Fr → V)} (hl : Looks o.op xs) {F F' : Fr} (h : ∀ t, reads ol o t = true → F'.get V.undef t = F.get V.undef t) : vals xs F' = vals xs F := by
  obtain ⟨l, h1, h2⟩ := hl
  exact opds_congr h1 (fun t ht => h t (reads_tmp (h2 _ ht)))

/-- what stands out stays so where its temporaries stay, and the heap grows or its reads are asked again -/
theorem Pend.keep {o : Oper} {F F' : Fr} {H H' : Heap} {φ ψ : Phi} (hp : Pend N T ol B o F H φ) (hF : ∀ t, touches ol o t = true → F'.get V.undef t = F.get V.undef t)
    (hH : ∀ id cs, H.get id = .cells cs 0 → φ id = none → id < H.next → H'.get id = .cells cs 0 ∧ ψ id = none ∧ id < H'.next)
    (hrd : ∀ xs g v, cop N T o.op = .rd xs g → wantOf ol o.guard F = some true → g (vals xs F) H = some v → F.get V.undef (o.dst.getD 0) = v → g (vals xs F) H' = some v) : Pend N T ol B o F' H' ψ := by
  obtain ⟨t, ht, hp⟩ := hp
  have hr : ∀ t, reads ol o t = true → F'.get V.undef t = F.get V.undef t := fun t h => hF t (by unfold touches; rw [h]; simp)
  have hd : F'.get V.undef t = F.get V.undef t := hF t (by unfold touches; rw [odEq_iff.2 ht]; rfl)
  have hw := want_congr hr
  refine ⟨t, ht, ?_⟩
  rcases hp with ⟨h1, h2⟩ | ⟨h1, xs, g, r, h2, h3, h4⟩ | ⟨h1, xs, g, h2, h3⟩
  · exact .inl ⟨hw.trans h1, hd.trans h2⟩
  · refine .inr (.inl ⟨hw.trans h1, xs, g, r, h2, ?_, ?_⟩)
    · rw [looks_congr (pu_looks h2) hr]; exact h3
    · rcases h4 with ⟨v, rfl, h5⟩ | ⟨cs, sh, id, rfl, h5, h6, h7, h8, h9⟩
      · exact .inl ⟨v, rfl, hd.trans h5⟩
      · obtain ⟨e1, e2, e3⟩ := hH id cs h6 h7 h8
        exact .inr ⟨cs, sh, id, rfl, hd.trans h5, e1, e2, e3, h9⟩
  · refine .inr (.inr ⟨hw.trans h1, xs, g, h2, ?_⟩)
    rw [looks_congr (rd_looks h2) hr, hd]
    exact hrd xs g _ h2 h1 h3 (by rw [ht]; rfl)

theorem put_get (F : Fr) (t u : Nat) (v : V) : (put F (some t) v).get V.undef u = if t = u then v else F.get V.undef u := Tr.get_set V.undef F t u v

/-- one operation that does not write, in the abstract -/
theorem Pend.first {cf : CF} {o : Oper} {t : Nat} (ht : o.dst = some t) (hE : isEff (cop N T o.op) = false) (hself : reads ol o t = false) {F F' : Fr} {H H' : Heap} {φ : Phi} (htop : ∀ b, H.next ≤ b → φ b = none) (hB : B ≤ H.next)
    (h : exec cf (stepOf N T ol o) F H = some (F', H')) :
    Pend N T ol B o F' H' φ ∧ (∀ u, u ≠ t → F'.get V.undef u = F.get V.undef u) ∧ (H' = H ∨ ∃ cs, H' = H.push (.cells cs 0)) ∧ (∀ xs g cs sh, wantOf ol o.guard F' = some true → cop N T o.op = .pu xs g → g (vals xs F') = some (.new cs sh) → F'.get V.undef t = Shape.mk sh H.next) := by
  unfold exec at h
  have hr : ∀ {v : V} u, reads ol o u = true → (put F (some t) v).get V.undef u = F.get V.undef u := by
    intro v u hu
    rw [put_get, if_neg]
    intro e; subst e; rw [hself] at hu; cases hu
  have hd : (stepOf N T ol o).dst = some t := ht
  rw [hd] at h
  have hw' : (stepOf N T ol o).want F = wantOf ol o.guard F := rfl
  rw [hw'] at h
  cases hw : wantOf ol o.guard F with
  | none => rw [hw] at h; cases h
  | some wb =>
  cases wb with
  | false =>
    rw [hw] at h
    cases h
    exact ⟨⟨t, ht, .inl ⟨(want_congr hr).trans hw, by rw [put_get, if_pos rfl]⟩⟩, fun u hu => by rw [put_get, if_neg (fun e => hu e.symm)], .inl rfl, fun xs g cs sh e1 _ _ => by rw [want_congr hr, hw] at e1; cases e1⟩
  | true =>
    rw [hw] at h
    have h' : (match cop N T o.op with
     | .bad => Option.none
     | .pu xs g => obind (g (vals xs F)) fun r => NR.casesOn (motive := fun _ => Option (Fr × Heap)) r (fun v => some (put F (some t) v, H)) (fun cs sh => some (put F (some t) (sh.mk H.next), H.push (.cells cs 0)))
     | .rd xs g => obind (g (vals xs F) H) fun v => some (put F (some t) v, H)
     | .eff xs g => obind (g (vals xs F) H) fun r => some (put F (some t) r.1, r.2)
     | .call xs g => obind (g (vals xs F)) fun c => obind (cf c.1 c.2 H) fun r => some (put F (some t) r.1, r.2)
     | .nxt _ => Option.none) = some (F', H') := h
    cases hc : cop N T o.op with
    | bad => rw [hc] at h'; cases h'
    | eff xs g => rw [hc] at hE; cases hE
    | call xs g => rw [hc] at hE; cases hE
    | nxt x => rw [hc] at hE; cases hE
    | pu xs g =>
      rw [hc] at h'
      obtain ⟨r, h1, h2⟩ := obind_some.1 h'
      cases r with
      | val v =>
        cases h2
        refine ⟨⟨t, ht, .inr (.inl ⟨(want_congr hr).trans hw, xs, g, .val v, hc, by rw [looks_congr (pu_looks hc) hr]; exact h1, .inl ⟨v, rfl, by rw [put_get, if_pos rfl]⟩⟩)⟩, fun u hu => by rw [put_get, if_neg (fun e => hu e.symm)], .inl rfl, fun xs' g' cs sh _ e2 e3 => by
          cases e2
          rw [looks_congr (pu_looks hc) hr, h1] at e3
          cases e3⟩
      | new cs sh =>
        cases h2
        refine ⟨⟨t, ht, .inr (.inl ⟨(want_congr hr).trans hw, xs, g, .new cs sh, hc, by rw [looks_congr (pu_looks hc) hr]; exact h1, .inr ⟨cs, sh, H.next, rfl, by rw [put_get, if_pos rfl], by rw [Heap.get_push, if_pos rfl], htop _ (Nat.le_refl _), by show H.next < H.next + 1; omega, hB⟩⟩)⟩,
          fun u hu => by rw [put_get, if_neg (fun e => hu e.symm)], .inr ⟨cs, rfl⟩, fun xs' g' cs' sh' _ e2 e3 => by
            cases e2
            rw [looks_congr (pu_looks hc) hr, h1] at e3
            cases e3
            rw [put_get, if_pos rfl]⟩
    | rd xs g =>
      rw [hc] at h'
      obtain ⟨v, h1, h2⟩ := obind_some.1 h'
      cases h2
      refine ⟨⟨t, ht, .inr (.inr ⟨(want_congr hr).trans hw, xs, g, hc, by rw [looks_congr (rd_looks hc) hr, put_get, if_pos rfl]; exact h1⟩)⟩, fun u hu => by rw [put_get, if_neg (fun e => hu e.symm)], .inl rfl, fun xs' g' cs sh _ e2 _ => by cases e2⟩
end
end Go.Ev
