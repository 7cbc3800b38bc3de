/- The abstract evaluator of the model: texts Ap Aq Ar As. -/
import Derived.Test.YtofkmenlcnjolaaGreatDoorE7
/- The abstract evaluator, part Ap: calls that leave memory as it is. -/
namespace Go.Ev
mutual
/-- a value of the greater heap, all of which the smaller one knows -/
inductive Vx (σ : Nat → Nat) (k : Nat) : V → V → Prop
  | bool (b : Bool) : Vx σ k (.bool b) (.bool b)
  | int (i : IntKind) (n : Int) : Vx σ k (.int i n) (.int i n)
  | str (s : List UInt8) : Vx σ k (.str s) (.str s)
  | ptr {b : Nat} (o : Nat) (h : b < k) : Vx σ k (.ptr (σ b) o) (.ptr b o)
  | nilp : Vx σ k .nilp .nilp
  | slice {b : Nat} (o len : Nat) (cap : Cap) (h : b < k) : Vx σ k (.slice (σ b) o len cap) (.slice b o len cap)
  | nils : Vx σ k .nils .nils
  | emp : Vx σ k .emp .emp
  | map {b : Nat} (h : b < k) : Vx σ k (.map (σ b)) (.map b)
  | nilm : Vx σ k .nilm .nilm
  | func (f : FuncId) {xs ys xs' ys' : List V} (h1 : Vxs σ k xs xs') (h2 : Vxs σ k ys ys') : Vx σ k (.func f xs ys) (.func f xs' ys')
  | nilf : Vx σ k .nilf .nilf
  | iface (t : TypeId) {v v' : V} (h : Vx σ k v v') : Vx σ k (.iface t v) (.iface t v')
  | nili : Vx σ k .nili .nili
  | agg {xs xs' : List V} (h : Vxs σ k xs xs') : Vx σ k (.agg xs) (.agg xs')
  | tup {xs xs' : List V} (h : Vxs σ k xs xs') : Vx σ k (.tup xs) (.tup xs')
inductive Vxs (σ : Nat → Nat) (k : Nat) : List V → List V → Prop
  | nil : Vxs σ k [] []
  | cons {v v' : V} {vs vs' : List V} (h : Vx σ k v v') (h' : Vxs σ k vs vs') : Vxs σ k (v :: vs) (v' :: vs')
end
mutual
theorem Vx.vw {σ : Nat → Nat} {k : Nat} : ∀ {v v2 : V}, Vx σ k v v2 → Vw σ k v v2
  | _, _, .bool b => .bool b
  | _, _, .int i n => .int i n
  | _, _, .str s => .str s
  | _, _, .ptr o h => .ptr o h
  | _, _, .nilp => .nilp
  | _, _, .slice o l c h => .slice o l c h
  | _, _, .nils => .nils
  | _, _, .emp => .emp
  | _, _, .map h => .map h
  | _, _, .nilm => .nilm
  | _, _, .func f h1 h2 => .func f h1.vws h2.vws
  | _, _, .nilf => .nilf
  | _, _, .iface t h => .iface t h.vw
  | _, _, .nili => .nili
  | _, _, .agg h => .agg h.vws
  | _, _, .tup h => .tup h.vws
theorem Vxs.vws {σ : Nat → Nat} {k : Nat} : ∀ {a b : List V}, Vxs σ k a b → Vws σ k a b
  | _, _, .nil => .nil
  | _, _, .cons h h' => .cons h.vw h'.vws
end
theorem Vxs.get {σ : Nat → Nat} {k : Nat} : ∀ {a b : List V}, Vxs σ k a b → ∀ (i : Nat) (y : V), a[i]? = some y → ∃ x, b[i]? = some x ∧ Vx σ k y x
  | _, _, .nil, i, x, h => by simp at h
  | _, _, .cons a b, 0, x, h => by simp at h; subst h; exact ⟨_, rfl, a⟩
  | _, _, .cons _ b, i + 1, x, h => by simpa using b.get i x (by simpa using h)
mutual
/-- what the smaller heap knows of a value later, the greater one knows of it -/
theorem Rv.back {φ ψ : Phi} {σ : Nat → Nat} {k : Nat} (hψ : ∀ b l, b < k → φ (σ b) = some l → ψ b = some l) : ∀ {v v2 : V} {v0 v' : Value}, Vx σ k v v2 → Rv φ v v0 → Rv ψ v2 v' → Rv φ v v'
  | _, _, _, _, .bool b, _, .bool _ => .bool b
  | _, _, _, _, .int i n, _, .int _ _ => .int i n
  | _, _, _, _, .str s, _, .str _ => .str s
  | _, _, _, _, .ptr o h, .ptr e, .ptr e' => by
    have := hψ _ _ h e
    rw [e'] at this
    cases this
    exact .ptr e
  | _, _, _, _, .nilp, _, .nilp => .nilp
  | _, _, _, _, .slice o len cap h, .slice e _ _, .slice e' h1 h2 => by
    have := hψ _ _ h e
    rw [e'] at this
    cases this
    exact .slice e h1 h2
  | _, _, _, _, .nils, _, .nils => .nils
  | _, _, _, _, .emp, _, .emp a c => .emp a c
  | _, _, _, _, .map h, .map e, .map e' => by
    have := hψ _ _ h e
    rw [e'] at this
    cases this
    exact .map e
  | _, _, _, _, .nilm, _, .nilm => .nilm
  | _, _, _, _, .func f h1 h2, .func _ g1 g2, .func _ k1 k2 => .func f (Rvs.back hψ h1 g1 k1) (Rvs.back hψ h2 g2 k2)
  | _, _, _, _, .nilf, _, .nilf => .nilf
  | _, _, _, _, .iface t h, .iface _ g, .iface _ k' => .iface t (Rv.back hψ h g k')
  | _, _, _, _, .nili, _, .nili => .nili
  | _, _, _, _, .agg h, .agg g, .agg k' => .agg (Rvs.back hψ h g k')
  | _, _, _, _, .tup h, .tup g, .tup k' => .tup (Rvs.back hψ h g k')
theorem Rvs.back {φ ψ : Phi} {σ : Nat → Nat} {k : Nat} (hψ : ∀ b l, b < k → φ (σ b) = some l → ψ b = some l) : ∀ {a b : List V} {c d : List Value}, Vxs σ k a b → Rvs φ a c → Rvs ψ b d → Rvs φ a d
  | _, _, _, _, .nil, .nil, .nil => .nil
  | _, _, _, _, .cons h h', .cons g g', .cons k1 k2 => .cons (Rv.back hψ h g k1) (Rvs.back hψ h' g' k2)
end
/-- the same for objects that are no rows -/
def Ox (σ : Nat → Nat) (k : Nat) : Oth → Oth → Prop
  | .map es, .map es2 => es.length = es2.length ∧ ∀ (i : Nat) (a0 v0 : V), es[i]? = some (a0, v0) → ∃ a v, es2[i]? = some (a, v) ∧ Vx σ k a0 a ∧ Vx σ k v0 v
  | .text s p, .text s2 p2 => s = s2 ∧ p = p2
  | _, _ => False
/-- H2 knows all of what H knows of some blocks, and nothing of others -/
structure CView (G : Nat) (σ : Nat → Nat) (H H2 : Heap) : Prop where
  view : View 0 σ H H2
  globs : G ≤ H2.next
  glob : ∀ g, g < G → σ g = g
  cells : ∀ b cs2 g2, b < H2.next → H2.get b = .cells cs2 g2 → (g2 = 0 ∨ (g2 < H2.next ∧ H2.lives b g2 = true)) ∧ ∃ cs g, H.get (σ b) = .cells cs g ∧ Vxs σ H2.next cs cs2 ∧ (g ≠ 0 → H.get g = .grp (σ b) (σ b))
  oth : ∀ b o2, b < H2.next → H2.get b = .oth o2 → ∃ o, H.get (σ b) = .oth o ∧ Ox σ H2.next o o2

theorem lives_congr {H H' : Heap} {b g : Nat} (h : g = 0 ∨ H'.get g = H.get g) (hl : H.lives b g = true) : H'.lives b g = true := by
  rcases lives_iff.1 hl with e | ⟨a, c, e, e'⟩
  · exact lives_iff.2 (.inl e)
  · rcases h with h | h
    · exact lives_iff.2 (.inl h)
    · exact lives_iff.2 (.inr ⟨a, c, h.trans e, e'⟩)

section
variable {G : Nat} {σ : Nat → Nat} {φ ψ : Phi} {H H2 H' : Heap} {w w' : World}
/-- a block of the view that is known, or one whose place stays -/
theorem stays (hr : Rel φ H w) (hX : CView G σ H H2) (he : Ext (φ.view σ H2.next) H2 w ψ H' w') {b : Nat} {l : Loc} (e : φ b = some l) (hk : ∀ cs g, H.get b = .cells cs g → H.lives b g = true) :
    (∃ b2, b2 < H2.next ∧ σ b2 = b ∧ H2.get b2 ≠ .none) ∨ w'.heap[l.c]? = w.heap[l.c]? := by
  by_cases hin : ∃ b2 l2, φ.view σ H2.next b2 = some l2 ∧ l2.c = l.c
  · obtain ⟨b2, l2, h1, h2⟩ := hin
    obtain ⟨h3, h4⟩ := Phi.view_some h1
    by_cases hb : σ b2 = b
    · by_cases hn : H2.get b2 = .none
      · right
        have := (he.keepN h1 hn).2
        rw [h2] at this
        exact this
      · exact .inl ⟨b2, h3, hb, hn⟩
    · obtain ⟨a1, a2, g, k1, k2, k3⟩ := hr.inj e h4 h2.symm (fun e => hb e.symm)
      have m2 := hk a1 g k2
      cases hg2 : H2.get b2 with
      | none =>
        right
        have := (he.keepN h1 hg2).2
        rw [h2] at this
        exact this
      | cells cs2 g2 =>
        obtain ⟨_, cs3, g3, p1, _, p3⟩ := hX.cells b2 cs2 g2 h3 hg2
        rw [k3] at p1
        cases p1
        have p4 := p3 k1
        rcases lives_iff.1 m2 with q | ⟨x, y, q1, q2⟩
        · exact absurd q k1
        · rw [p4] at q1
          cases q1
          have := hr.mem k2 k1 p4
          exact absurd (Nat.le_antisymm q2 this) hb
      | grp x y =>
        obtain ⟨_, x', y', p1⟩ := hX.view.grp b2 x y (Nat.zero_le _) hg2
        rw [k3] at p1
        cases p1
      | oth o2 =>
        obtain ⟨o, p1, _⟩ := hX.oth b2 o2 h3 hg2
        rw [k3] at p1
        cases p1
  · exact .inr (he.keepC (hr.loc e) (fun b2 l2 h1 h2 => hin ⟨b2, l2, h1, h2⟩))
theorem Rel.after (hr : Rel φ H w) (hX : CView G σ H H2) (he : Ext (φ.view σ H2.next) H2 w ψ H' w') (hsame : ∀ b, b < H2.next → H'.get b = H2.get b) : Rel φ H w' := by
  have hψ : ∀ b l, b < H2.next → φ (σ b) = some l → ψ b = some l := fun b l h e => he.le b l (Phi.view_of h e)
  refine ⟨?_, ?_, hr.len, hr.inj, hr.top, ?_, hr.mem, hr.flo, ?_⟩
  · intro b l cs g i v e1 e2 e3 e4
    obtain ⟨v0, k1, k2⟩ := hr.cell e1 e2 e3 e4
    rcases stays hr hX he e1 (fun cs' g' h => by rw [e2] at h; cases h; exact e3) with ⟨b2, h3, rfl, hnn⟩ | hh
    · cases hg2 : H2.get b2 with
      | none => exact absurd hg2 hnn
      | cells cs2 g2 =>
        obtain ⟨p0, cs3, g3, p1, p2, _⟩ := hX.cells b2 cs2 g2 h3 hg2
        rw [e2] at p1
        cases p1
        obtain ⟨x, p4, p5⟩ := p2.get i v e4
        have hl : H'.lives b2 g2 = true := by
          rcases p0 with q | ⟨q1, q2⟩
          · exact lives_iff.2 (.inl q)
          · exact lives_congr (.inr (hsame g2 q1)) q2
        obtain ⟨v', q1, q2⟩ := he.rel.cell (hψ b2 l h3 e1) ((hsame b2 h3).trans hg2) hl p4
        exact ⟨v', q1, Rv.back hψ p5 k2 q2⟩
      | grp x y =>
        obtain ⟨_, x', y', p1⟩ := hX.view.grp b2 x y (Nat.zero_le _) hg2
        rw [e2] at p1
        cases p1
      | oth o2 =>
        obtain ⟨o, p1, _⟩ := hX.oth b2 o2 h3 hg2
        rw [e2] at p1
        cases p1
    · refine ⟨v0, ?_, k2⟩
      unfold World.cell? at k1 ⊢
      rw [hh]
      exact k1
  · intro b l i e1 e2
    exact he.same.free (hr.room e1 e2)
  · intro b l e1
    exact Nat.lt_of_lt_of_le (hr.loc e1) he.size
  · intro b l o e1 e2
    obtain ⟨k1, k2⟩ := hr.oth e1 e2
    refine ⟨k1, ?_⟩
    rcases stays hr hX he e1 (fun cs' g' h => by rw [e2] at h; cases h) with ⟨b2, h3, rfl, hnn⟩ | hh
    · cases hg2 : H2.get b2 with
      | none => exact absurd hg2 hnn
      | cells cs2 g2 =>
        obtain ⟨_, cs3, g3, p1, _⟩ := hX.cells b2 cs2 g2 h3 hg2
        rw [e2] at p1
        cases p1
      | grp x y =>
        obtain ⟨_, x', y', p1⟩ := hX.view.grp b2 x y (Nat.zero_le _) hg2
        rw [e2] at p1
        cases p1
      | oth o2 =>
        obtain ⟨o', p1, p2⟩ := hX.oth b2 o2 h3 hg2
        rw [e2] at p1
        cases p1
        have q := (he.rel.oth (hψ b2 l h3 e1) ((hsame b2 h3).trans hg2)).2
        cases o with
        | map es =>
          cases o2 <;> first | (exact p2.elim) | skip
          rename_i es2
          obtain ⟨r1, r2⟩ := p2
          obtain ⟨es0, s1, s2, s3⟩ := k2
          obtain ⟨es', t1, t2, t3⟩ := q
          refine ⟨es', by rw [r1]; exact t1, by rw [r1]; exact t2, ?_⟩
          intro i a0 v0 hi
          obtain ⟨a, v, u1, u2, u3⟩ := r2 i a0 v0 hi
          obtain ⟨x0, y1, y2, y3, _⟩ := s3 i a0 v0 hi
          obtain ⟨x, z1, z2, z3, z4⟩ := t3 i a v u1
          exact ⟨x, z1, Rv.back hψ u2 y2 z2, Rv.back hψ u3 y3 z3, z4⟩
        | text s p =>
          cases o2 <;> first | (exact p2.elim) | skip
          obtain ⟨rfl, rfl⟩ := p2
          exact q
        | iter m a b c d => cases o2 <;> exact p2.elim
        | loop L => cases o2 <;> exact p2.elim
        | ro x => cases o2 <;> exact p2.elim
    · exact k2.mono (Phi.le_refl φ) hh
theorem stays_none (hr : Rel φ H w) (hX : CView G σ H H2) (he : Ext (φ.view σ H2.next) H2 w ψ H' w') {b : Nat} {l : Loc} (e1 : φ b = some l) (e2 : H.get b = .none) : w'.heap[l.c]? = w.heap[l.c]? := by
  rcases stays hr hX he e1 (fun cs' g' h => by rw [e2] at h; cases h) with ⟨b2, h3, rfl, hnn⟩ | hh
  · cases hg2 : H2.get b2 with
    | none => exact absurd hg2 hnn
    | cells cs2 g2 =>
      obtain ⟨_, cs3, g3, p1, _⟩ := hX.cells b2 cs2 g2 h3 hg2
      rw [e2] at p1
      cases p1
    | grp x y =>
      obtain ⟨_, x', y', p1⟩ := hX.view.grp b2 x y (Nat.zero_le _) hg2
      rw [e2] at p1
      cases p1
    | oth o2 =>
      obtain ⟨o', p1, p2⟩ := hX.oth b2 o2 h3 hg2
      rw [e2] at p1
      cases p1
  · exact hh
end

/- values with other block numbers -/
noncomputable def renL (f : V → Option V) (l : List V) : Option (List V) :=
  List.rec (motive := fun _ => Option (List V)) (some []) (fun v _ ih => obind (f v) fun x => obind ih fun r => some (x :: r)) l
noncomputable def ren (s : Nat → Nat) (n : Nat) : V → Option V :=
  Nat.rec (motive := fun _ => V → Option V) (fun _ => Option.none) (fun _ ih v => match v with
    | .ptr b o => some (.ptr (s b) o)
    | .slice b o len cap => some (.slice (s b) o len cap)
    | .map b => some (.map (s b))
    | .yld b => some (.yld (s b))
    | .func f xs ys => obind (renL ih xs) fun xs => obind (renL ih ys) fun ys => some (.func f xs ys)
    | .iface t v => obind (ih v) fun v => some (.iface t v)
    | .agg xs => obind (renL ih xs) fun xs => some (.agg xs)
    | .tup xs => obind (renL ih xs) fun xs => some (.tup xs)
    | v => some v) n
theorem renL_sound {f : V → Option V} {ψ χ : Phi} (hf : ∀ v x v', f v = some x → Rv ψ v v' → Rv χ x v') : ∀ {l r : List V} {l' : List Value}, renL f l = some r → Rvs ψ l l' → Rvs χ r l' := by
  intro l
  induction l with
  | nil => intro r l' h hv; cases h; cases hv; exact .nil
  | cons v l ih =>
    intro r l' h hv
    obtain ⟨x, h1, h⟩ := obind_some.1 (show obind (f v) (fun x => obind (renL f l) fun r => some (x :: r)) = some r from h)
    obtain ⟨q, h2, h⟩ := obind_some.1 h
    cases h
    cases hv with
    | cons a b => exact .cons (hf _ _ _ h1 a) (ih h2 b)
theorem renL_length {f : V → Option V} : ∀ {l r : List V}, renL f l = some r → r.length = l.length := by
  intro l
  induction l with
  | nil => intro r h; cases h; rfl
  | cons v l ih =>
    intro r h
    obtain ⟨x, h1, h⟩ := obind_some.1 (show obind (f v) (fun x => obind (renL f l) fun r => some (x :: r)) = some r from h)
    obtain ⟨q, h2, h⟩ := obind_some.1 h
    cases h
    simp [ih h2]
theorem ren_sound {s : Nat → Nat} {ψ χ : Phi} (hs : ∀ b l, ψ b = some l → χ (s b) = some l) : ∀ n v x v', ren s n v = some x → Rv ψ v v' → Rv χ x v' := by
  intro n
  induction n with
  | zero => intro v x v' h; cases h
  | succ n ih =>
    intro v x v' h hv
    cases hv with
    | bool b => cases h; exact .bool b
    | int k m => cases h; exact .int k m
    | str t => cases h; exact .str t
    | ptr e => cases h; exact .ptr (hs _ _ e)
    | nilp => cases h; exact .nilp
    | slice e h1 h2 => cases h; exact .slice (hs _ _ e) h1 h2
    | nils => cases h; exact .nils
    | emp a c => cases h; exact .emp a c
    | map e => cases h; exact .map (hs _ _ e)
    | nilm => cases h; exact .nilm
    | func f h1 h2 =>
      rename_i xs ys xs' ys'
      obtain ⟨q, k1, h⟩ := obind_some.1 (show obind (renL (ren s n) xs) (fun xs => obind (renL (ren s n) ys) fun ys => some (V.func f xs ys)) = some x from h)
      obtain ⟨q2, k2, h⟩ := obind_some.1 h
      cases h
      exact .func f (renL_sound ih k1 h1) (renL_sound ih k2 h2)
    | nilf => cases h; exact .nilf
    | iface t h1 =>
      rename_i u u'
      obtain ⟨q, k1, h⟩ := obind_some.1 (show obind (ren s n u) (fun v => some (V.iface t v)) = some x from h)
      cases h
      exact .iface t (ih _ _ _ k1 h1)
    | nili => cases h; exact .nili
    | agg h1 =>
      rename_i xs xs'
      obtain ⟨q, k1, h⟩ := obind_some.1 (show obind (renL (ren s n) xs) (fun xs => some (V.agg xs)) = some x from h)
      cases h
      exact .agg (renL_sound ih k1 h1)
    | tup h1 =>
      rename_i xs xs'
      obtain ⟨q, k1, h⟩ := obind_some.1 (show obind (renL (ren s n) xs) (fun xs => some (V.tup xs)) = some x from h)
      cases h
      exact .tup (renL_sound ih k1 h1)
    | any v' => cases h; exact .any v'
    | cell h1 => cases h; exact .cell h1
    | yld e => cases h; exact .yld (hs _ _ e)

/-- rows made one after the other -/
noncomputable def pushAll (ds : List (List V)) : Heap → Heap :=
  List.rec (motive := fun _ => Heap → Heap) (fun H => H) (fun d _ ih H => ih (H.push (.cells d 0))) ds
theorem pushAll_next : ∀ (ds : List (List V)) (H : Heap), (pushAll ds H).next = H.next + ds.length := by
  intro ds
  induction ds with
  | nil => intro H; rfl
  | cons d ds ih =>
    intro H
    show (pushAll ds (H.push (.cells d 0))).next = _
    rw [ih]
    show H.next + 1 + ds.length = _
    simp only [List.length_cons]
    omega
theorem pushAll_get : ∀ (ds : List (List V)) (H : Heap) (b : Nat), (pushAll ds H).get b = if H.next ≤ b ∧ b < H.next + ds.length then .cells ((ds[b - H.next]?).getD []) 0 else H.get b := by
  intro ds
  induction ds with
  | nil => intro H b; rw [if_neg (by simp)]; rfl
  | cons d ds ih =>
    intro H b
    show (pushAll ds (H.push (.cells d 0))).get b = _
    rw [ih, Heap.get_push]
    have hn : (H.push (.cells d 0)).next = H.next + 1 := rfl
    rw [hn]
    simp only [List.length_cons]
    by_cases h1 : H.next = b
    · subst h1
      rw [if_neg (by omega), if_pos rfl, if_pos (by omega)]
      simp
    · by_cases h2 : H.next + 1 ≤ b ∧ b < H.next + 1 + ds.length
      · rw [if_pos h2, if_pos (by omega)]
        have : b - H.next = (b - (H.next + 1)) + 1 := by omega
        rw [this]
        simp
      · rw [if_neg h2, if_neg h1, if_neg (by omega)]

section
variable {P : Program} {G : Nat}
/-- numbers of the smaller heap, and of the rows made behind it, in the greater one -/
def over (σ : Nat → Nat) (k next : Nat) (b : Nat) : Nat := if b < k then σ b else next + (b - k)
/-- a call on a smaller heap, in the greater one: the blocks of the view stay, rows are made -/
theorem call_lift {σ : Nat → Nat} {f : FuncId} {args args2 : List V} {H H2 : Heap} {v3 vB : V} {ds dB : List (List V)} {fuel : Nat} (hX : CView G σ H H2) (ha : Vws σ H2.next args args2)
    (hv : ren (over σ H2.next H.next) fuel v3 = some vB) (hlen : dB.length = ds.length) (hd : ∀ (i : Nat) (d : List V), ds[i]? = some d → ∃ d', dB[i]? = some d' ∧ renL (ren (over σ H2.next H.next) fuel) d = some d')
    (h : CallTo P G (.fn f) args2 H2 fun v H' => v = v3 ∧ H' = pushAll ds H2) : CallTo P G (.fn f) args H fun v H' => v = vB ∧ H' = pushAll dB H := by
  refine ⟨h.1, fun φ w args' hr hg hargs => (h.2 (φ.view σ H2.next) w args' (hr.view hX.view) ?_ (Rvs.view ha hargs)).mono ?_⟩
  · intro g hg1
    obtain ⟨lim, e⟩ := hg g hg1
    exact ⟨lim, Phi.view_of (Nat.lt_of_lt_of_le hg1 hX.globs) (by rw [hX.glob g hg1]; exact e)⟩
  · rintro e w' ⟨v, v', H', ψ, rfl, he, hvv, rfl, rfl⟩
    have hsame : ∀ b, b < H2.next → (pushAll ds H2).get b = H2.get b := fun b hb => by rw [pushAll_get, if_neg (by omega)]
    have hra := hr.after hX he hsame
    have hlt : ∀ {b : Nat} {l : Loc}, φ b = some l → b < H.next := fun {b l} e => Nat.lt_of_not_le fun hb => by rw [(hr.top hb).1] at e; cases e
    let χ : Phi := fun b => if b < H.next then φ b else if b < H.next + ds.length then ψ (H2.next + (b - H.next)) else none
    have hχ : ∀ {b : Nat} {l : Loc}, χ b = some l → (b < H.next ∧ φ b = some l) ∨ (H.next ≤ b ∧ b < H.next + ds.length ∧ ψ (H2.next + (b - H.next)) = some l) := by
      intro b l e
      have e' : (if b < H.next then φ b else if b < H.next + ds.length then ψ (H2.next + (b - H.next)) else none) = some l := e
      split at e'
      · exact .inl ⟨by assumption, e'⟩
      · split at e'
        · exact .inr ⟨by omega, by assumption, e'⟩
        · cases e'
    have hle : φ.le χ := fun b l e => by
      show (if b < H.next then φ b else _) = some l
      rw [if_pos (hlt e)]
      exact e
    have hs : ∀ b l, ψ b = some l → b < H2.next + ds.length → (b < H2.next → φ.view σ H2.next b = some l) → χ (over σ H2.next H.next b) = some l := by
      intro b l e1 e2 e3
      unfold over
      by_cases hb : b < H2.next
      · rw [if_pos hb]
        exact hle _ _ (Phi.view_some (e3 hb)).2
      · rw [if_neg hb]
        show (if H.next + (b - H2.next) < H.next then _ else if H.next + (b - H2.next) < H.next + ds.length then ψ (H2.next + (H.next + (b - H2.next) - H.next)) else none) = some l
        rw [if_neg (by omega), if_pos (by omega)]
        have : H2.next + (H.next + (b - H2.next) - H.next) = b := by omega
        rw [this]
        exact e1
    have hs' : ∀ b l, ψ b = some l → χ (over σ H2.next H.next b) = some l := by
      intro b l e1
      have hb : b < H2.next + ds.length := by
        refine Nat.lt_of_not_le fun hge => ?_
        have := (he.rel.top (b := b) (by rw [pushAll_next]; exact hge)).1
        rw [this] at e1
        cases e1
      refine hs b l e1 hb (fun hb2 => ?_)
      cases e0 : φ.view σ H2.next b with
      | some l0 =>
        have := he.le b l0 e0
        rw [this] at e1
        exact e1
      | none => exact absurd (he.fresh e0 e1).1 (by omega)
    have hnew : ∀ {i : Nat} {l : Loc}, i < ds.length → ψ (H2.next + i) = some l → w.heap.size ≤ l.c := by
      intro i l hi e
      have e0 : φ.view σ H2.next (H2.next + i) = none := by unfold Phi.view; rw [if_neg (by omega)]
      rcases (he.fresh e0 e).2 with g1 | ⟨b0, l0, g1, g2⟩
      · exact g1
      · have hb0 := (Phi.view_some g1).1
        obtain ⟨_, _, g, k1, _, k3⟩ := he.rel.inj (he.le _ _ g1) e g2 (by omega)
        rw [pushAll_get, if_pos (by omega)] at k3
        cases k3
        exact absurd rfl k1
    have hgetO : ∀ {b : Nat}, b < H.next → (pushAll dB H).get b = H.get b := fun hb => by rw [pushAll_get, if_neg (by omega)]
    have hgetN : ∀ {b : Nat}, H.next ≤ b → b < H.next + ds.length → (pushAll dB H).get b = .cells ((dB[b - H.next]?).getD []) 0 := fun h1 h2 => by rw [pushAll_get, if_pos ⟨h1, by rw [hlen]; exact h2⟩]
    have hgetT : ∀ {b : Nat}, H.next + ds.length ≤ b → (pushAll dB H).get b = .none := fun h1 => by
      rw [pushAll_get, if_neg (by rw [hlen]; omega)]
      exact (hr.top (by omega)).2
    have hgrp : ∀ {g x y : Nat}, (pushAll dB H).get g = .grp x y → g < H.next ∧ H.get g = .grp x y := by
      intro g x y e
      by_cases h1 : g < H.next
      · rw [hgetO h1] at e; exact ⟨h1, e⟩
      · by_cases h2 : g < H.next + ds.length
        · rw [hgetN (by omega) h2] at e; cases e
        · rw [hgetT (by omega)] at e; cases e
    have hpair : ∀ {i : Nat}, i < ds.length → ∃ d d', ds[i]? = some d ∧ dB[i]? = some d' ∧ renL (ren (over σ H2.next H.next) fuel) d = some d' := by
      intro i hi
      obtain ⟨d', h1, h2⟩ := hd i ds[i] (List.getElem?_eq_getElem hi)
      exact ⟨ds[i], d', List.getElem?_eq_getElem hi, h1, h2⟩
    have hrel : Rel χ (pushAll dB H) w' := by
      refine ⟨?_, ?_, ?_, ?_, ?_, ?_, ?_, ?_, ?_⟩
      · intro b l cs g i v e1 e2 e3 e4
        rcases hχ e1 with ⟨h1, h2⟩ | ⟨h1, h2, h3⟩
        · rw [hgetO h1] at e2
          have hl : H.lives b g = true := by
            rcases lives_iff.1 e3 with q | ⟨x, y, q1, q2⟩
            · exact lives_iff.2 (.inl q)
            · exact lives_iff.2 (.inr ⟨x, y, (hgrp q1).2, q2⟩)
          obtain ⟨u, k1, k2⟩ := hra.cell h2 e2 hl e4
          exact ⟨u, k1, k2.mono hle⟩
        · rw [hgetN h1 h2] at e2
          obtain ⟨d, d', p1, p2, p3⟩ := hpair (i := b - H.next) (by omega)
          rw [p2] at e2
          cases e2
          have hlt2 := renL_length p3
          have hi : i < d.length := by
            have := (List.getElem?_eq_some_iff.1 e4).1
            simp only [Option.getD_some] at this
            omega
          obtain ⟨u, k1, k2⟩ := he.rel.cell (i := i) (v := d[i]) h3 (by rw [pushAll_get, if_pos (by omega)]) (lives_iff.2 (.inl rfl)) (by
            have : H2.next + (b - H.next) - H2.next = b - H.next := by omega
            rw [this, p1]
            simp [hi])
          refine ⟨u, k1, ?_⟩
          have key : ∀ {l r : List V}, renL (ren (over σ H2.next H.next) fuel) l = some r → ∀ (j : Nat) (x y : V), l[j]? = some x → r[j]? = some y → ren (over σ H2.next H.next) fuel x = some y := by
            intro l
            induction l with
            | nil => intro r _ j x y hx; simp at hx
            | cons a l ih =>
              intro r hr' j x y hx hy
              obtain ⟨z, m1, hr'⟩ := obind_some.1 (show obind (ren (over σ H2.next H.next) fuel a) (fun x => obind (renL (ren (over σ H2.next H.next) fuel) l) fun r => some (x :: r)) = some r from hr')
              obtain ⟨q, m2, hr'⟩ := obind_some.1 hr'
              cases hr'
              cases j with
              | zero => simp at hx hy; subst hx; subst hy; exact m1
              | succ j => exact ih m2 j x y (by simpa using hx) (by simpa using hy)
          exact ren_sound hs' fuel _ _ _ (key p3 i d[i] v (List.getElem?_eq_getElem hi) (by simpa using e4)) k2
      · intro b l i e1 e2
        rcases hχ e1 with ⟨h1, h2⟩ | ⟨h1, h2, h3⟩
        · exact hra.room h2 e2
        · exact he.rel.room h3 e2
      · intro b l cs g e1 e2
        rcases hχ e1 with ⟨h1, h2⟩ | ⟨h1, h2, h3⟩
        · rw [hgetO h1] at e2
          exact hr.len h2 e2
        · rw [hgetN h1 h2] at e2
          obtain ⟨d, d', p1, p2, p3⟩ := hpair (i := b - H.next) (by omega)
          rw [p2] at e2
          cases e2
          have := he.rel.len (cs := d) (g := 0) h3 (by
            rw [pushAll_get, if_pos (by omega)]
            have : H2.next + (b - H.next) - H2.next = b - H.next := by omega
            rw [this, p1]
            rfl)
          simp only [Option.getD_some]
          rw [renL_length p3]
          exact this
      · intro b b' l l' e1 e2 e3 e4
        rcases hχ e1 with ⟨h1, h2⟩ | ⟨h1, h2, h3⟩
        · rcases hχ e2 with ⟨k1, k2⟩ | ⟨k1, k2, k3⟩
          · rw [hgetO h1, hgetO k1]
            exact hr.inj h2 k2 e3 e4
          · have := hr.loc h2
            have := hnew (i := b' - H.next) (by omega) k3
            omega
        · rcases hχ e2 with ⟨k1, k2⟩ | ⟨k1, k2, k3⟩
          · have := hr.loc k2
            have := hnew (i := b - H.next) (by omega) h3
            omega
          · obtain ⟨_, _, g, m1, m2, _⟩ := he.rel.inj h3 k3 e3 (by omega)
            rw [pushAll_get, if_pos (by omega)] at m2
            cases m2
            exact absurd rfl m1
      · intro b hb
        rw [pushAll_next, hlen] at hb
        refine ⟨?_, hgetT hb⟩
        show (if b < H.next then _ else if b < H.next + ds.length then _ else none) = none
        rw [if_neg (by omega), if_neg (by omega)]
      · intro b l e1
        rcases hχ e1 with ⟨h1, h2⟩ | ⟨h1, h2, h3⟩
        · exact hra.loc h2
        · exact he.rel.loc h3
      · intro b cs g leaf fl e1 e2 e3
        obtain ⟨q1, q2⟩ := hgrp e3
        by_cases h1 : b < H.next
        · rw [hgetO h1] at e1
          exact hr.mem e1 e2 q2
        · by_cases h2 : b < H.next + ds.length
          · rw [hgetN (by omega) h2] at e1
            cases e1
            exact absurd rfl e2
          · rw [hgetT (by omega)] at e1
            cases e1
      · intro g leaf fl e1
        exact hr.flo (hgrp e1).2
      · intro b l o e1 e2
        rcases hχ e1 with ⟨h1, h2⟩ | ⟨h1, h2, h3⟩
        · rw [hgetO h1] at e2
          obtain ⟨k1, k2⟩ := hra.oth h2 e2
          exact ⟨k1, k2.mono hle rfl⟩
        · rw [hgetN h1 h2] at e2
          cases e2
    refine ⟨vB, v', _, χ, rfl, ⟨hrel, hle, ?_, ?_, by rw [pushAll_next]; omega, ?_, he.size, he.same, ?_⟩, ren_sound hs' fuel _ _ _ hv hvv, rfl, rfl⟩
    · intro b l e1 e2
      rcases hχ e2 with ⟨h1, h2⟩ | ⟨h1, h2, h3⟩
      · rw [e1] at h2; cases h2
      · exact ⟨h1, .inl (hnew (i := b - H.next) (by omega) h3)⟩
    · intro b hb _ _
      exact hgetO hb
    · intro c hc hno
      exact he.keepC hc (fun b l e1 => hno (σ b) l (Phi.view_some e1).2)
    · intro b l e1 e2
      exact ⟨(hgetO (hlt e1)).trans e2, stays_none hr hX he e1 e2⟩
/-- the result of a call, less well known: a smaller heap -/
theorem CallTo.view {t : Tgt} {args : List V} {H : Heap} {Q Q' : V → Heap → Prop} (c : CallTo P G t args H Q) (h : ∀ v H', Q v H' → ∃ τ v3 H3, View H.next τ H' H3 ∧ Vw τ H3.next v v3 ∧ Q' v3 H3) : CallTo P G t args H Q' := by
  have hpost : ∀ {φ : Phi} {w : World} {e : Ending} {w' : World}, Rel φ H w → Post φ H w Q e w' → Post φ H w Q' e w' := by
    rintro φ w e w' hr ⟨v, v', H', ψ, rfl, h2, h3, h4⟩
    obtain ⟨τ, v3, H3, k1, k2, k3⟩ := h v H' h4
    exact ⟨v3, v', H3, _, rfl, ExtB.full hr ((h2.toB (Nat.le_refl _)).trans (h2.rel.ext_view k1)), Rv.view k2 h3, k3⟩
  cases t with
  | fn f => exact ⟨c.1, fun _ _ _ h1 h2 h3 => (c.2 _ _ _ h1 h2 h3).mono fun _ _ => hpost h1⟩
  | yld b => exact fun _ _ _ _ h1 h2 h3 h4 => let ⟨f, t, a, bd, g1, g2⟩ := c _ _ _ _ h1 h2 h3 h4; ⟨f, t, a, bd, g1, g2.mono fun _ _ => hpost h1⟩
end
end Go.Ev
/- The abstract evaluator, part Aq: views checked by computation. -/
namespace Go.Ev
/-- scalars -/
def sca (v : V) : Bool := match v with
  | .bool _ => true | .int _ _ => true | .str _ => true | .nilp => true | .nils => true | .emp => true | .nilm => true | .nilf => true | .nili => true
  | _ => false
theorem Vx.sca {σ : Nat → Nat} {k : Nat} {v : V} (h : sca v = true) : Vx σ k v v := by
  cases v <;> first | (cases h; done) | constructor
def isOpaq (c : Cap) : Bool := match c with | .opaq => true | _ => false
/-- block b of the greater heap is block b2 of the smaller one -/
noncomputable def bB (s : Nat → Nat) (k b b2 : Nat) : Bool := and (Nat.beq b (s b2)) (Nat.ble (Nat.succ b2) k)
noncomputable def vxB (s : Nat → Nat) (k n : Nat) : V → V → Bool :=
  Nat.rec (motive := fun _ => V → V → Bool) (fun _ _ => false) (fun _ ih v v2 => match v2 with
    | .ptr b2 o2 => (match v with | .ptr b o => and (bB s k b b2) (Nat.beq o o2) | _ => false)
    | .slice b2 o2 l2 c2 => (match v with | .slice b o l c => and (bB s k b b2) (and (Nat.beq o o2) (and (Nat.beq l l2) (caeq c c2))) | _ => false)
    | .map b2 => (match v with | .map b => bB s k b b2 | _ => false)
    | .func f2 x2 y2 => (match v with | .func f x y => and (Nat.beq f f2) (and (lall2 ih x x2) (lall2 ih y y2)) | _ => false)
    | .iface t2 w2 => (match v with | .iface t w => and (Nat.beq t t2) (ih w w2) | _ => false)
    | .agg x2 => (match v with | .agg x => lall2 ih x x2 | _ => false)
    | .tup x2 => (match v with | .tup x => lall2 ih x x2 | _ => false)
    | v2 => and (sca v2) (veq 1 v v2)) n
noncomputable def vwB (s : Nat → Nat) (k n : Nat) : V → V → Bool :=
  Nat.rec (motive := fun _ => V → V → Bool) (fun _ _ => false) (fun _ ih v v2 => match v2 with
    | .any => true
    | .cell => v.one
    | .ptr b2 o2 => (match v with | .ptr b o => and (bB s k b b2) (Nat.beq o o2) | _ => false)
    | .slice b2 o2 l2 c2 => (match v with | .slice b o l c => and (bB s k b b2) (and (Nat.beq o o2) (and (Nat.beq l l2) (or (isOpaq c2) (caeq c c2)))) | _ => false)
    | .map b2 => (match v with | .map b => bB s k b b2 | _ => false)
    | .func f2 x2 y2 => (match v with | .func f x y => and (Nat.beq f f2) (and (lall2 ih x x2) (lall2 ih y y2)) | _ => false)
    | .iface t2 w2 => (match v with | .iface t w => and (Nat.beq t t2) (ih w w2) | _ => false)
    | .agg x2 => (match v with | .agg x => lall2 ih x x2 | _ => false)
    | .tup x2 => (match v with | .tup x => lall2 ih x x2 | _ => false)
    | v2 => and (sca v2) (veq 1 v v2)) n
theorem bB_ok {s : Nat → Nat} {k b b2 : Nat} (h : bB s k b b2 = true) : b = s b2 ∧ b2 < k := by
  unfold bB at h
  rw [Bool.and_eq_true, beq_eq, ble_le] at h
  exact h
theorem vxs_ok {s : Nat → Nat} {k : Nat} {f : V → V → Bool} (hf : ∀ v v2, f v v2 = true → Vx s k v v2) : ∀ {l l2 : List V}, lall2 f l l2 = true → Vxs s k l l2 := by
  intro l
  induction l with
  | nil => intro l2 h; cases l2 with
    | nil => exact .nil
    | cons a b => cases h
  | cons a l ih => intro l2 h; cases l2 with
    | nil => cases h
    | cons b l2 =>
      have h' : and (f a b) (lall2 f l l2) = true := h
      rw [Bool.and_eq_true] at h'
      exact .cons (hf _ _ h'.1) (ih h'.2)
theorem vws_ok {s : Nat → Nat} {k : Nat} {f : V → V → Bool} (hf : ∀ v v2, f v v2 = true → Vw s k v v2) : ∀ {l l2 : List V}, lall2 f l l2 = true → Vws s k l l2 := by
  intro l
  induction l with
  | nil => intro l2 h; cases l2 with
    | nil => exact .nil
    | cons a b => cases h
  | cons a l ih => intro l2 h; cases l2 with
    | nil => cases h
    | cons b l2 =>
      have h' : and (f a b) (lall2 f l l2) = true := h
      rw [Bool.and_eq_true] at h'
      exact .cons (hf _ _ h'.1) (ih h'.2)
theorem vxB_ok {s : Nat → Nat} {k : Nat} : ∀ n v v2, vxB s k n v v2 = true → Vx s k v v2 := by
  intro n
  induction n with
  | zero => intro v v2 h; cases h
  | succ n ih =>
    intro v v2 h
    have hsc : and (sca v2) (veq 1 v v2) = true → Vx s k v v2 := by
      intro h
      rw [Bool.and_eq_true] at h
      rw [veq_sound _ _ _ h.2]
      exact Vx.sca h.1
    cases v2 <;> first | exact hsc h | skip
    case ptr b2 o2 =>
      cases v <;> first | (cases h; done) | skip
      have h' : and (bB s k _ b2) (Nat.beq _ o2) = true := h
      rw [Bool.and_eq_true, beq_eq] at h'
      obtain ⟨h1, rfl⟩ := h'
      obtain ⟨rfl, h2⟩ := bB_ok h1
      exact .ptr _ h2
    case slice b2 o2 l2 c2 =>
      cases v <;> first | (cases h; done) | skip
      have h' : and (bB s k _ b2) (and (Nat.beq _ o2) (and (Nat.beq _ l2) (caeq _ c2))) = true := h
      rw [Bool.and_eq_true, Bool.and_eq_true, Bool.and_eq_true, beq_eq, beq_eq] at h'
      obtain ⟨h1, rfl, rfl, h3⟩ := h'
      obtain ⟨rfl, h2⟩ := bB_ok h1
      rw [caeq_sound h3]
      exact .slice _ _ _ h2
    case map b2 =>
      cases v <;> first | (cases h; done) | skip
      obtain ⟨rfl, h2⟩ := bB_ok h
      exact .map h2
    case func f2 x2 y2 =>
      cases v <;> first | (cases h; done) | skip
      have h' : and (Nat.beq _ f2) (and (lall2 (vxB s k n) _ x2) (lall2 (vxB s k n) _ y2)) = true := h
      rw [Bool.and_eq_true, Bool.and_eq_true, beq_eq] at h'
      obtain ⟨rfl, h1, h2⟩ := h'
      exact .func _ (vxs_ok ih h1) (vxs_ok ih h2)
    case iface t2 w2 =>
      cases v <;> first | (cases h; done) | skip
      have h' : and (Nat.beq _ t2) (vxB s k n _ w2) = true := h
      rw [Bool.and_eq_true, beq_eq] at h'
      obtain ⟨rfl, h1⟩ := h'
      exact .iface _ (ih _ _ h1)
    case agg x2 =>
      cases v <;> first | (cases h; done) | skip
      exact .agg (vxs_ok ih h)
    case tup x2 =>
      cases v <;> first | (cases h; done) | skip
      exact .tup (vxs_ok ih h)
theorem vwB_ok {s : Nat → Nat} {k : Nat} : ∀ n v v2, vwB s k n v v2 = true → Vw s k v v2 := by
  intro n
  induction n with
  | zero => intro v v2 h; cases h
  | succ n ih =>
    intro v v2 h
    have hsc : and (sca v2) (veq 1 v v2) = true → Vw s k v v2 := by
      intro h
      rw [Bool.and_eq_true] at h
      rw [veq_sound _ _ _ h.2]
      exact (Vx.sca h.1).vw
    cases v2 <;> first | exact hsc h | skip
    case any => exact .any _
    case cell => exact .cell h
    case ptr b2 o2 =>
      cases v <;> first | (cases h; done) | skip
      have h' : and (bB s k _ b2) (Nat.beq _ o2) = true := h
      rw [Bool.and_eq_true, beq_eq] at h'
      obtain ⟨h1, rfl⟩ := h'
      obtain ⟨rfl, h2⟩ := bB_ok h1
      exact .ptr _ h2
    case slice b2 o2 l2 c2 =>
      cases v <;> first | (cases h; done) | skip
      rename_i b o l c
      have h' : and (bB s k b b2) (and (Nat.beq o o2) (and (Nat.beq l l2) (or (isOpaq c2) (caeq c c2)))) = true := h
      rw [Bool.and_eq_true, Bool.and_eq_true, Bool.and_eq_true, beq_eq, beq_eq, Bool.or_eq_true] at h'
      obtain ⟨h1, rfl, rfl, h3⟩ := h'
      obtain ⟨rfl, h2⟩ := bB_ok h1
      rcases h3 with h3 | h3
      · cases c2 <;> first | (cases h3; done) | exact .sliceO _ _ _ h2
      · rw [caeq_sound h3]
        exact .slice _ _ _ h2
    case map b2 =>
      cases v <;> first | (cases h; done) | skip
      obtain ⟨rfl, h2⟩ := bB_ok h
      exact .map h2
    case func f2 x2 y2 =>
      cases v <;> first | (cases h; done) | skip
      have h' : and (Nat.beq _ f2) (and (lall2 (vwB s k n) _ x2) (lall2 (vwB s k n) _ y2)) = true := h
      rw [Bool.and_eq_true, Bool.and_eq_true, beq_eq] at h'
      obtain ⟨rfl, h1, h2⟩ := h'
      exact .func _ (vws_ok ih h1) (vws_ok ih h2)
    case iface t2 w2 =>
      cases v <;> first | (cases h; done) | skip
      have h' : and (Nat.beq _ t2) (vwB s k n _ w2) = true := h
      rw [Bool.and_eq_true, beq_eq] at h'
      obtain ⟨rfl, h1⟩ := h'
      exact .iface _ (ih _ _ h1)
    case agg x2 =>
      cases v <;> first | (cases h; done) | skip
      exact .agg (vws_ok ih h)
    case tup x2 =>
      cases v <;> first | (cases h; done) | skip
      exact .tup (vws_ok ih h)

/- heaps given by their objects -/
noncomputable def trL (l : List AObj) : Nat → Tr AObj → Tr AObj :=
  List.rec (motive := fun _ => Nat → Tr AObj → Tr AObj) (fun _ t => t) (fun a _ ih i t => ih (Nat.succ i) (Tr.setP .none a (path i) t)) l
noncomputable def mkH (l : List AObj) : Heap := ⟨trL l 0 .nil, llen l⟩
theorem trL_get : ∀ (l : List AObj) (k : Nat) (t : Tr AObj) (i : Nat), (trL l k t).get .none i = if k ≤ i ∧ i < k + l.length then (l[i - k]?).getD .none else t.get .none i := by
  intro l
  induction l with
  | nil => intro k t i; rw [if_neg (by simp)]; rfl
  | cons a l ih =>
    intro k t i
    show (trL l (k + 1) (t.set .none k a)).get .none i = _
    rw [ih, Tr.get_set]
    simp only [List.length_cons]
    by_cases h1 : k = i
    · subst h1
      rw [if_neg (by omega), if_pos rfl, if_pos (by omega)]
      simp
    · by_cases h2 : k + 1 ≤ i ∧ i < k + 1 + l.length
      · rw [if_pos h2, if_pos (by omega)]
        have : i - k = (i - (k + 1)) + 1 := by omega
        rw [this]
        simp
      · rw [if_neg h2, if_neg h1, if_neg (by omega)]
theorem mkH_next (l : List AObj) : (mkH l).next = l.length := llen_eq l
theorem mkH_get (l : List AObj) (b : Nat) : (mkH l).get b = (l[b]?).getD .none := by
  show (trL l 0 .nil).get .none b = _
  rw [trL_get]
  by_cases h : b < l.length
  · rw [if_pos (by omega)]; rfl
  · rw [if_neg (by omega), Tr.get_nil, List.getElem?_eq_none (by omega)]; rfl
end Go.Ev
/- The abstract evaluator, part Ar: views of heaps checked by computation. -/
namespace Go.Ev
/-- the same value, letter by letter -/
noncomputable def vsame (n : Nat) : V → V → Bool :=
  Nat.rec (motive := fun _ => V → V → Bool) (fun _ _ => false) (fun _ ih a b => match a with
    | .any => (match b with | .any => true | _ => false)
    | .cell => (match b with | .cell => true | _ => false)
    | .func f x y => (match b with | .func g z t => and (Nat.beq f g) (and (lall2 ih x z) (lall2 ih y t)) | _ => false)
    | .iface x y => (match b with | .iface z t => and (Nat.beq x z) (ih y t) | _ => false)
    | .agg x => (match b with | .agg y => lall2 ih x y | _ => false)
    | .tup x => (match b with | .tup y => lall2 ih x y | _ => false)
    | a => veq 1 a b) n
theorem vsame_ok : ∀ n a b, vsame n a b = true → a = b := by
  intro n
  induction n with
  | zero => intro a b h; cases h
  | succ n ih =>
    intro a b h
    cases a <;> first | exact veq_sound 1 _ _ h | skip
    case any => cases b <;> first | rfl | cases h
    case cell => cases b <;> first | rfl | cases h
    case func f x y =>
      cases b <;> first | (cases h; done) | skip
      have h' : and (Nat.beq _ _) (and (lall2 (vsame n) _ _) (lall2 (vsame n) _ _)) = true := h
      rw [Bool.and_eq_true, Bool.and_eq_true, beq_eq] at h'
      rw [h'.1, lall2_sound ih _ _ h'.2.1, lall2_sound ih _ _ h'.2.2]
    case iface x y =>
      cases b <;> first | (cases h; done) | skip
      have h' : and (Nat.beq _ _) (vsame n _ _) = true := h
      rw [Bool.and_eq_true, beq_eq] at h'
      rw [h'.1, ih _ _ h'.2]
    case agg x =>
      cases b <;> first | (cases h; done) | skip
      rw [lall2_sound ih _ _ h]
    case tup x =>
      cases b <;> first | (cases h; done) | skip
      rw [lall2_sound ih _ _ h]
noncomputable def onB (a b : Option Nat) : Bool := match a with
  | some x => (match b with | some y => Nat.beq x y | _ => false)
  | .none => (match b with | .none => true | _ => false)
theorem onB_ok {a b : Option Nat} (h : onB a b = true) : a = b := by
  cases a <;> cases b <;> first | rfl | (cases h; done) | skip
  exact congrArg some ((beq_eq _ _).1 h)
theorem nats_ok {a b : List Nat} (h : lall2 Nat.beq a b = true) : a = b := lall2_sound (fun _ _ h => (beq_eq _ _).1 h) _ _ h
/-- deep enough for every value here -/
noncomputable abbrev dpt : Nat := 12
noncomputable def osame (a b : Oth) : Bool := match a with
  | .map es => (match b with | .map es2 => lall2 (fun x y => and (vsame dpt x.1 y.1) (vsame dpt x.2 y.2)) es es2 | _ => false)
  | .iter m s l c t => (match b with | .iter m2 s2 l2 c2 t2 => and (and (Nat.beq m m2) (Nat.beq s s2)) (and (lall2 Nat.beq l l2) (and (onB c c2) (Nat.beq t t2))) | _ => false)
  | .text s p => (match b with | .text s2 p2 => and (lall2 ueq s s2) (Nat.beq p p2) | _ => false)
  | .loop _ => false
  | .ro _ => false
theorem osame_ok {a b : Oth} (h : osame a b = true) : a = b := by
  cases a <;> cases b <;> first | (cases h; done) | skip
  case map.map es es2 =>
    refine congrArg Oth.map (lall2_sound (fun x y h => ?_) _ _ h)
    have h' : and (vsame dpt x.1 y.1) (vsame dpt x.2 y.2) = true := h
    rw [Bool.and_eq_true] at h'
    exact Prod.ext (vsame_ok _ _ _ h'.1) (vsame_ok _ _ _ h'.2)
  case iter.iter m s l c t m2 s2 l2 c2 t2 =>
    have h' : and (and (Nat.beq m m2) (Nat.beq s s2)) (and (lall2 Nat.beq l l2) (and (onB c c2) (Nat.beq t t2))) = true := h
    rw [Bool.and_eq_true, Bool.and_eq_true, Bool.and_eq_true, Bool.and_eq_true, beq_eq, beq_eq, beq_eq] at h'
    obtain ⟨⟨rfl, rfl⟩, h1, h2, rfl⟩ := h'
    rw [nats_ok h1, onB_ok h2]
  case text.text s p s2 p2 =>
    have h' : and (lall2 ueq s s2) (Nat.beq p p2) = true := h
    rw [Bool.and_eq_true, beq_eq] at h'
    obtain ⟨h1, rfl⟩ := h'
    rw [lall2_ueq] at h1
    rw [eq_of_beq h1]
noncomputable def asame (a b : AObj) : Bool := match a with
  | .none => (match b with | .none => true | _ => false)
  | .cells cs g => (match b with | .cells cs2 g2 => and (Nat.beq g g2) (lall2 (vsame dpt) cs cs2) | _ => false)
  | .grp x y => (match b with | .grp x2 y2 => and (Nat.beq x x2) (Nat.beq y y2) | _ => false)
  | .oth o => (match b with | .oth o2 => osame o o2 | _ => false)
theorem asame_ok {a b : AObj} (h : asame a b = true) : a = b := by
  cases a <;> cases b <;> first | rfl | (cases h; done) | skip
  case cells.cells cs g cs2 g2 =>
    have h' : and (Nat.beq g g2) (lall2 (vsame dpt) cs cs2) = true := h
    rw [Bool.and_eq_true, beq_eq] at h'
    rw [h'.1, lall2_sound (vsame_ok _) _ _ h'.2]
  case grp.grp x y x2 y2 =>
    have h' : and (Nat.beq x x2) (Nat.beq y y2) = true := h
    rw [Bool.and_eq_true, beq_eq, beq_eq] at h'
    rw [h'.1, h'.2]
  case oth.oth o o2 => exact congrArg AObj.oth (osame_ok h)

noncomputable def allN (p : Nat → Bool) (n : Nat) : Bool := Nat.rec (motive := fun _ => Bool) true (fun i ih => and (p i) ih) n
theorem allN_ok {p : Nat → Bool} : ∀ {n : Nat}, allN p n = true → ∀ i, i < n → p i = true := by
  intro n
  induction n with
  | zero => intro _ i hi; omega
  | succ n ih =>
    intro h i hi
    have h' : and (p n) (allN p n) = true := h
    rw [Bool.and_eq_true] at h'
    by_cases e : i = n
    · rw [e]; exact h'.1
    · exact ih h'.2 i (by omega)
noncomputable def ndB (s : List Nat) : Bool := List.rec (motive := fun _ => Bool) true (fun a l ih => and (lall (fun b => !(Nat.beq a b)) l) ih) s
theorem lall_ok {α : Type} {f : α → Bool} : ∀ {l : List α}, lall f l = true → ∀ a ∈ l, f a = true := by
  intro l
  induction l with
  | nil => intro _ a h; cases h
  | cons b l ih =>
    intro h a ha
    have h' : and (f b) (lall f l) = true := h
    rw [Bool.and_eq_true] at h'
    cases ha with
    | head => exact h'.1
    | tail _ h2 => exact ih h'.2 a h2
theorem ndB_ok : ∀ {s : List Nat}, ndB s = true → ∀ i j, i < s.length → j < s.length → lget 0 s i = lget 0 s j → i = j := by
  intro s
  induction s with
  | nil => intro _ i _ hi; cases hi
  | cons a s ih =>
    intro h i j hi hj e
    have h' : and (lall (fun b => !(Nat.beq a b)) s) (ndB s) = true := h
    rw [Bool.and_eq_true] at h'
    have hne : ∀ k, k < s.length → a ≠ lget 0 s k := by
      intro k hk e
      have h1 := lall_ok h'.1 (s[k]) (List.getElem_mem hk)
      rw [lget_eq, List.getElem?_eq_getElem hk] at e
      have e' : a = s[k] := e
      rw [← e', Nat.beq_refl] at h1
      cases h1
    simp only [List.length_cons] at hi hj
    cases i with
    | zero => cases j with
      | zero => rfl
      | succ j => exact absurd e (hne j (by omega))
    | succ i => cases j with
      | zero => exact absurd e.symm (hne i (by omega))
      | succ j => rw [ih h'.2 i j (by omega) (by omega) e]
/-- the block of the greater heap -/
noncomputable def sg (s : List Nat) : Nat → Nat := fun b => lget 0 s b
noncomputable def owB (s : Nat → Nat) (k : Nat) (o o2 : Oth) : Bool := match o2 with
  | .map es2 => (match o with | .map es => lall2 (fun x y => and (vwB s k dpt x.1 y.1) (vwB s k dpt x.2 y.2)) es es2 | _ => false)
  | .iter m2 s2 l2 c2 t2 => (match o with | .iter m s1 l c t => and (bB s k m m2) (and (Nat.beq s1 s2) (and (lall2 Nat.beq l l2) (and (onB c c2) (Nat.beq t t2)))) | _ => false)
  | .text s2 p2 => (match o with | .text s1 p => and (lall2 ueq s1 s2) (Nat.beq p p2) | _ => false)
  | .loop _ => false
  | .ro _ => false
theorem lall2_get {α : Type} {f : α → α → Bool} : ∀ {l m : List α}, lall2 f l m = true → l.length = m.length ∧ ∀ (i : Nat) (b : α), m[i]? = some b → ∃ a, l[i]? = some a ∧ f a b = true := by
  intro l
  induction l with
  | nil => intro m h; cases m with
    | nil => exact ⟨rfl, fun i b e => by simp at e⟩
    | cons a m => cases h
  | cons a l ih => intro m h; cases m with
    | nil => cases h
    | cons b m =>
      have h' : and (f a b) (lall2 f l m) = true := h
      rw [Bool.and_eq_true] at h'
      obtain ⟨h1, h2⟩ := ih h'.2
      refine ⟨by simp [h1], fun i c e => ?_⟩
      cases i with
      | zero => simp at e; subst e; exact ⟨a, rfl, h'.1⟩
      | succ i => simpa using h2 i c (by simpa using e)
theorem owB_ok {s : Nat → Nat} {k : Nat} {o o2 : Oth} (h : owB s k o o2 = true) : Ow s k o o2 := by
  cases o2 <;> cases o <;> first | (cases h; done) | skip
  case map.map es2 es =>
    obtain ⟨h1, h2⟩ := lall2_get h
    refine ⟨h1, fun i a v e => ?_⟩
    obtain ⟨⟨a0, v0⟩, e1, e2⟩ := h2 i (a, v) e
    have h' : and (vwB s k dpt a0 a) (vwB s k dpt v0 v) = true := e2
    rw [Bool.and_eq_true] at h'
    exact ⟨a0, v0, e1, vwB_ok _ _ _ h'.1, vwB_ok _ _ _ h'.2⟩
  case iter.iter m2 s2 l2 c2 t2 m s1 l c t =>
    have h' : and (bB s k m m2) (and (Nat.beq s1 s2) (and (lall2 Nat.beq l l2) (and (onB c c2) (Nat.beq t t2)))) = true := h
    rw [Bool.and_eq_true, Bool.and_eq_true, Bool.and_eq_true, Bool.and_eq_true, beq_eq, beq_eq] at h'
    obtain ⟨h1, rfl, h2, h3, rfl⟩ := h'
    obtain ⟨rfl, h4⟩ := bB_ok h1
    exact ⟨h4, rfl, rfl, nats_ok h2, onB_ok h3, rfl⟩
  case text.text s2 p2 s1 p =>
    have h' : and (lall2 ueq s1 s2) (Nat.beq p p2) = true := h
    rw [Bool.and_eq_true, beq_eq] at h'
    obtain ⟨h1, rfl⟩ := h'
    rw [lall2_ueq] at h1
    exact ⟨eq_of_beq h1, rfl⟩
noncomputable def isGrp (o : AObj) : Bool := match o with | .grp _ _ => true | _ => false
noncomputable def grpIs (o : AObj) (leaf : Nat) : Bool := match o with | .grp x _ => Nat.beq x leaf | _ => false
noncomputable def grpAt (o : AObj) (b : Nat) : Bool := match o with | .grp x y => and (Nat.beq x b) (Nat.beq y b) | _ => false
/-- is a number below B -/
noncomputable def lt (a b : Nat) : Bool := Nat.ble (Nat.succ a) b
theorem lt_ok {a b : Nat} : lt a b = true ↔ a < b := ble_le _ _
theorem leafB_ok {B : Nat} {H : Heap} {b g : Nat} (h : or (Nat.beq g 0) (and (Nat.ble B g) (grpIs (H.get g) b)) = true) : g = 0 ∨ (B ≤ g ∧ ∃ fl, H.get g = .grp b fl) := by
  rw [Bool.or_eq_true, Bool.and_eq_true, beq_eq, ble_le] at h
  rcases h with h | ⟨h, h'⟩
  · exact .inl h
  · refine .inr ⟨h, ?_⟩
    cases e4 : H.get g <;> rw [e4] at h' <;> first | (cases h'; done) | skip
    rename_i x y
    exact ⟨y, by rw [(beq_eq _ _).1 h']⟩
noncomputable def blkB (B : Nat) (s : Nat → Nat) (k : Nat) (H H2 : Heap) (b : Nat) : Bool :=
  match H2.get b with
  | .none => (match H.get (s b) with | .cells _ g => or (Nat.beq g 0) (and (Nat.ble B g) (grpIs (H.get g) (s b))) | _ => true)
  | .cells cs2 g2 => (match H.get (s b) with
      | .cells cs g => and (and (H2.lives b g2) (and (H.lives (s b) g) (lall2 (vwB s k dpt) cs cs2)))
          (Bool.casesOn (motive := fun _ => Bool) (Nat.beq g2 0) (and (and (Nat.ble B g2) (grpAt (H2.get g2) b)) (and (and (!(Nat.beq g 0)) (Nat.ble B g)) (grpIs (H.get g) (s b)))) (or (Nat.beq g 0) (and (Nat.ble B g) (grpIs (H.get g) (s b)))))
      | _ => false)
  | .grp leaf fl => and (Nat.ble fl leaf) (isGrp (H.get (s b)))
  | .oth o2 => (match H.get (s b) with | .oth o => owB s k o o2 | _ => false)
/-- a block below the base -/
noncomputable def lowB (B : Nat) (s : Nat → Nat) (k : Nat) (H H2 : Heap) (b : Nat) : Bool :=
  and (and (Nat.beq (s b) b) (asame (H2.get b) (H.get b)))
    (match H2.get b with
     | .cells cs2 g2 => and (lt g2 B) (or (!(H2.lives b g2)) (and (H.lives b g2) (lall2 (vwB s k dpt) cs2 cs2)))
     | .oth o2 => owB s k o2 o2
     | _ => true)
noncomputable def viewB (B : Nat) (s : List Nat) (H : Heap) (l : List AObj) : Bool :=
  and (and (Nat.ble B (llen l)) (and (Nat.beq (llen s) (llen l)) (ndB s)))
    (allN (fun b => Bool.casesOn (motive := fun _ => Bool) (lt b B) (blkB B (sg s) (llen l) H (mkH l) b) (lowB B (sg s) (llen l) H (mkH l) b)) (llen l))
theorem viewB_ok {B : Nat} {s : List Nat} {H : Heap} {l : List AObj} (h : viewB B s H l = true) : View B (sg s) H (mkH l) := by
  unfold viewB at h
  rw [Bool.and_eq_true, Bool.and_eq_true, Bool.and_eq_true, ble_le, beq_eq] at h
  obtain ⟨⟨h1, h2, h3⟩, h4⟩ := h
  have hk : (mkH l).next = llen l := rfl
  have hout : ∀ b, (mkH l).next ≤ b → (mkH l).get b = .none := by
    intro b hb
    rw [mkH_get, List.getElem?_eq_none (by rw [mkH_next] at hb; exact hb)]; rfl
  have hin : ∀ b, (mkH l).get b ≠ .none → b < llen l := fun b hb => Nat.lt_of_not_le fun h => hb (hout b (by rw [hk]; exact h))
  have hlow : ∀ b, b < B → sg s b = b ∧ (mkH l).get b = H.get b ∧ (match (mkH l).get b with
     | .cells cs2 g2 => and (lt g2 B) (or (!((mkH l).lives b g2)) (and (H.lives b g2) (lall2 (vwB (sg s) (llen l) dpt) cs2 cs2)))
     | .oth o2 => owB (sg s) (llen l) o2 o2
     | _ => true) = true := by
    intro b hb
    have h5 := allN_ok h4 b (Nat.lt_of_lt_of_le hb h1)
    rw [lt_ok.2 hb] at h5
    have h6 : lowB B (sg s) (llen l) H (mkH l) b = true := h5
    unfold lowB at h6
    rw [Bool.and_eq_true, Bool.and_eq_true, beq_eq] at h6
    exact ⟨h6.1.1, asame_ok h6.1.2, h6.2⟩
  have hblk : ∀ b, B ≤ b → b < llen l → blkB B (sg s) (llen l) H (mkH l) b = true := by
    intro b hb hb2
    have h5 := allN_ok h4 b hb2
    have : lt b B = false := by
      cases e : lt b B with
      | false => rfl
      | true => have := lt_ok.1 e; omega
    rw [this] at h5
    exact h5
  refine ⟨h1, fun b hb => (hlow b hb).1, ?_, hout, ?_, fun b hb => (hlow b hb).2.1, ?_, ?_, ?_, ?_, ?_⟩
  · intro b b' hb hb' e
    exact ndB_ok h3 b b' (by rw [← llen_eq, h2]; exact hb) (by rw [← llen_eq, h2]; exact hb') e
  · intro b cs g hb hb2 e1 e2
    have h5 := hblk b hb hb2
    unfold blkB at h5
    rw [e1, e2] at h5
    exact leafB_ok h5
  · intro b cs g hb e
    obtain ⟨_, e2, e3⟩ := hlow b hb
    rw [e2, e] at e3
    have e3' : and (lt g B) _ = true := e3
    rw [Bool.and_eq_true, lt_ok] at e3'
    exact e3'.1
  · intro b cs2 g2 e1 e2
    have hb := hin b (by rw [e1]; intro h; cases h)
    by_cases hB : b < B
    · obtain ⟨f1, f2, f3⟩ := hlow b hB
      rw [e1] at f3
      have f3' : and (lt g2 B) (or (!((mkH l).lives b g2)) (and (H.lives b g2) (lall2 (vwB (sg s) (llen l) dpt) cs2 cs2))) = true := f3
      rw [Bool.and_eq_true, e2] at f3'
      have f4 : and (H.lives b g2) (lall2 (vwB (sg s) (llen l) dpt) cs2 cs2) = true := f3'.2
      rw [Bool.and_eq_true] at f4
      exact ⟨cs2, g2, by rw [f1, ← f2]; exact e1, by rw [f1]; exact f4.1, vws_ok (vwB_ok _) f4.2⟩
    · have h5 := hblk b (by omega) hb
      unfold blkB at h5
      rw [e1] at h5
      cases e3 : H.get (sg s b) <;> rw [e3] at h5 <;> first | (cases h5; done) | skip
      rename_i cs g
      have h6 : and (and _ (and (H.lives (sg s b) g) (lall2 (vwB (sg s) (llen l) dpt) cs cs2))) _ = true := h5
      rw [Bool.and_eq_true, Bool.and_eq_true, Bool.and_eq_true] at h6
      exact ⟨cs, g, rfl, h6.1.2.1, vws_ok (vwB_ok _) h6.1.2.2⟩
  · intro b cs2 g2 hB e1
    have hb := hin b (by rw [e1]; intro h; cases h)
    have h5 := hblk b hB hb
    unfold blkB at h5
    rw [e1] at h5
    cases e3 : H.get (sg s b) <;> rw [e3] at h5 <;> first | (cases h5; done) | skip
    rename_i cs g
    have h6 : and (and ((mkH l).lives b g2) _) (Bool.casesOn (motive := fun _ => Bool) (Nat.beq g2 0) (and (and (Nat.ble B g2) (grpAt ((mkH l).get g2) b)) (and (and (!(Nat.beq g 0)) (Nat.ble B g)) (grpIs (H.get g) (sg s b)))) (or (Nat.beq g 0) (and (Nat.ble B g) (grpIs (H.get g) (sg s b))))) = true := h5
    rw [Bool.and_eq_true, Bool.and_eq_true] at h6
    obtain ⟨⟨h7, _⟩, h8⟩ := h6
    refine ⟨h7, cs, g, rfl, ?_, ?_⟩
    · intro e
      subst e
      exact leafB_ok h8
    · intro e
      have : Nat.beq g2 0 = false := by
        cases e' : Nat.beq g2 0 with
        | false => rfl
        | true => exact absurd ((beq_eq _ _).1 e') e
      rw [this] at h8
      have h9 : and (and (Nat.ble B g2) (grpAt ((mkH l).get g2) b)) (and (and (!(Nat.beq g 0)) (Nat.ble B g)) (grpIs (H.get g) (sg s b))) = true := h8
      rw [Bool.and_eq_true, Bool.and_eq_true, Bool.and_eq_true, Bool.and_eq_true, ble_le, ble_le] at h9
      obtain ⟨⟨k1, k2⟩, ⟨k3, k4⟩, k5⟩ := h9
      refine ⟨k1, ?_, ?_, k4, ?_⟩
      · cases e4 : (mkH l).get g2 <;> rw [e4] at k2 <;> first | (cases k2; done) | skip
        rename_i x y
        have k2' : and (Nat.beq x b) (Nat.beq y b) = true := k2
        rw [Bool.and_eq_true, beq_eq, beq_eq] at k2'
        rw [k2'.1, k2'.2]
      · intro e5
        subst e5
        cases k3
      · cases e4 : H.get g <;> rw [e4] at k5 <;> first | (cases k5; done) | skip
        rename_i x y
        exact ⟨y, by rw [(beq_eq _ _).1 k5]⟩
  · intro g leaf fl hB e1
    have hb := hin g (by rw [e1]; intro h; cases h)
    have h5 := hblk g hB hb
    unfold blkB at h5
    rw [e1] at h5
    have h6 : and (Nat.ble fl leaf) (isGrp (H.get (sg s g))) = true := h5
    rw [Bool.and_eq_true, ble_le] at h6
    refine ⟨h6.1, ?_⟩
    cases e4 : H.get (sg s g) <;> rw [e4] at h6 <;> first | (cases h6.2; done) | skip
    exact ⟨_, _, rfl⟩
  · intro b o2 e1
    have hb := hin b (by rw [e1]; intro h; cases h)
    by_cases hB : b < B
    · obtain ⟨f1, f2, f3⟩ := hlow b hB
      rw [e1] at f3
      exact ⟨o2, by rw [f1, ← f2]; exact e1, owB_ok f3⟩
    · have h5 := hblk b (by omega) hb
      unfold blkB at h5
      rw [e1] at h5
      cases e3 : H.get (sg s b) <;> rw [e3] at h5 <;> first | (cases h5; done) | skip
      exact ⟨_, rfl, owB_ok h5⟩
end Go.Ev
/- The abstract evaluator, part As: a state made small: only what is reached, numbered in the order in which it is found. -/
namespace Go.Ev
noncomputable def lflat {α β : Type} (f : α → List β) (l : List α) : List β := List.rec (motive := fun _ => List β) [] (fun a _ ih => lapp (f a) ih) l
/-- the blocks in a value -/
noncomputable def blkV (n : Nat) : V → List Nat :=
  Nat.rec (motive := fun _ => V → List Nat) (fun _ => []) (fun _ ih v => match v with
    | .ptr b _ => [b]
    | .slice b _ _ _ => [b]
    | .map b => [b]
    | .yld b => [b]
    | .func _ x y => lapp (lflat ih x) (lflat ih y)
    | .iface _ v => ih v
    | .agg x => lflat ih x
    | .tup x => lflat ih x
    | _ => []) n
noncomputable def blkO (o : AObj) : List Nat := match o with
  | .cells cs g => lapp (Nat.rec (motive := fun _ => List Nat) [] (fun _ _ => [g]) g) (lflat (blkV dpt) cs)
  | .oth o => (match o with
    | .map es => lflat (fun e => lapp (blkV dpt e.1) (blkV dpt e.2)) es
    | .iter m _ _ _ _ => [m]
    | _ => [])
  | _ => []
/-- the blocks from B on that are reached: to do, found -/
noncomputable def gcS (B : Nat) (H : Heap) (fuel : Nat) : List Nat → List Nat → List Nat :=
  Nat.rec (motive := fun _ => List Nat → List Nat → List Nat) (fun _ s => s) (fun _ ih todo s => List.casesOn (motive := fun _ => List Nat) todo s (fun b r =>
    Bool.casesOn (motive := fun _ => List Nat) (or (lt b B) (lany (Nat.beq b) s)) (ih (lapp (blkO (H.get b)) r) (lapp s [b])) (ih r s))) fuel
noncomputable def posn (b : Nat) (s : List Nat) : Nat → Nat :=
  List.rec (motive := fun _ => Nat → Nat) (fun k => k) (fun a _ ih k => Bool.casesOn (motive := fun _ => Nat) (Nat.beq a b) (ih (Nat.succ k)) k) s
noncomputable def idx (B : Nat) (s : List Nat) (b : Nat) : Nat := Bool.casesOn (motive := fun _ => Nat) (lt b B) (posn b s B) b
noncomputable def renE (f : V → Option V) (l : List (V × V)) : Option (List (V × V)) :=
  List.rec (motive := fun _ => Option (List (V × V))) (some []) (fun e _ ih => obind (f e.1) fun x => obind (f e.2) fun y => obind ih fun r => some ((x, y) :: r)) l
noncomputable def renO (f : Nat → Nat) (o : AObj) : Option AObj := match o with
  | .none => some .none
  | .cells cs g => obind (renL (ren f dpt) cs) fun cs => some (.cells cs (Nat.rec (motive := fun _ => Nat) 0 (fun _ _ => f g) g))
  | .grp leaf _ => some (.grp (f leaf) (f leaf))
  | .oth o => (match o with
    | .map es => obind (renE (ren f dpt) es) fun es => some (.oth (.map es))
    | .iter m a b c d => some (.oth (.iter (f m) a b c d))
    | .text s p => some (.oth (.text s p))
    | .loop _ => Option.none
    | .ro _ => Option.none)
noncomputable def renOs (f : Nat → Nat) (H : Heap) (s : List Nat) : Option (List AObj) :=
  List.rec (motive := fun _ => Option (List AObj)) (some []) (fun b _ ih => obind (renO f (H.get b)) fun o => obind ih fun r => some (o :: r)) s
noncomputable def iota (n : Nat) : Nat → List Nat := Nat.rec (motive := fun _ => Nat → List Nat) (fun _ => []) (fun _ ih k => k :: ih (Nat.succ k)) n
theorem iota_get : ∀ (n k i : Nat), i < n → (iota n k)[i]? = some (k + i) := by
  intro n
  induction n with
  | zero => intro k i h; omega
  | succ n ih =>
    intro k i h
    show (k :: iota n (k + 1))[i]? = _
    cases i with
    | zero => rfl
    | succ i =>
      have := ih (k + 1) i (by omega)
      simpa [Nat.add_assoc, Nat.add_comm 1 i] using this
theorem iota_length : ∀ (n k : Nat), (iota n k).length = n := by
  intro n
  induction n with
  | zero => intro k; rfl
  | succ n ih => intro k; show (iota n (k + 1)).length + 1 = _; rw [ih]
structure Can where
  vs : List V
  l : List AObj
/-- the values fl, of which vs is to be known, on a small heap -/
noncomputable def canonV (B : Nat) (fl vs : List V) (H : Heap) : Option Can :=
  (fun s => obind (renL (ren (idx B s) dpt) vs) fun vs' => obind (renOs (idx B s) H s) fun l =>
    oif (and (viewB B (lapp (iota B 0) s) H (lapp (lmap H.get (iota B 0)) l)) (lall2 (vwB (sg (lapp (iota B 0) s)) (llen (lapp (lmap H.get (iota B 0)) l)) dpt) fl vs'))
      (some ⟨vs', lapp (lmap H.get (iota B 0)) l⟩)) (gcS B H 4000 (lflat (blkV dpt) vs) [])
/-- what a state on a small heap knows of a state -/
def Seen (B : Nat) (fl : List V) (H : Heap) (c : Can) : Prop := ∃ σ, View B σ H (mkH c.l) ∧ Vws σ (mkH c.l).next fl c.vs
theorem canonV_ok {B : Nat} {fl vs : List V} {H : Heap} {c : Can} (h : canonV B fl vs H = some c) : Seen B fl H c := by
  unfold canonV at h
  obtain ⟨vs', h1, h⟩ := obind_some.1 h
  obtain ⟨l, h2, h⟩ := obind_some.1 h
  obtain ⟨h3, h⟩ := oif_some.1 h
  cases h
  rw [Bool.and_eq_true] at h3
  exact ⟨_, viewB_ok h3.1, vws_ok (vwB_ok _) h3.2⟩
/-- what ranges over maps have still to come: looked at first -/
noncomputable def ckey (l : List AObj) : List Nat := lflat (fun o => match o with
  | .oth (.iter _ _ left _ _) => left
  | _ => []) l
noncomputable def csame (a b : Can) : Bool := and (lall2 Nat.beq (ckey a.l) (ckey b.l)) (and (lall2 (vsame dpt) a.vs b.vs) (lall2 asame a.l b.l))
theorem csame_ok {a b : Can} (h : csame a b = true) : a = b := by
  unfold csame at h
  rw [Bool.and_eq_true, Bool.and_eq_true] at h
  replace h := h.2
  cases a; cases b
  have h1 := lall2_sound (vsame_ok _) _ _ h.1
  have h2 := lall2_sound (fun _ _ h => asame_ok h) _ _ h.2
  simp only at h1 h2
  rw [h1, h2]
noncomputable def joinC (c : Can) (S : List Can) : List Can := Bool.casesOn (motive := fun _ => List Can) (lany (csame c) S) (c :: S) S
theorem lany_ok {α : Type} {f : α → Bool} : ∀ {l : List α}, lany f l = true → ∃ a ∈ l, f a = true := by
  intro l
  induction l with
  | nil => intro h; cases h
  | cons b l ih =>
    intro h
    have h' : or (f b) (lany f l) = true := h
    rw [Bool.or_eq_true] at h'
    rcases h' with h' | h'
    · exact ⟨b, List.mem_cons_self, h'⟩
    · obtain ⟨a, h1, h2⟩ := ih h'
      exact ⟨a, List.mem_cons_of_mem _ h1, h2⟩
theorem joinC_self (c : Can) (S : List Can) : c ∈ joinC c S := by
  unfold joinC
  cases h : lany (csame c) S with
  | false => exact List.mem_cons_self
  | true =>
    obtain ⟨a, h1, h2⟩ := lany_ok h
    rw [csame_ok h2]
    exact h1
theorem joinC_sub (c : Can) (S : List Can) : ∀ a ∈ S, a ∈ joinC c S := by
  intro a ha
  unfold joinC
  cases h : lany (csame c) S with
  | false => exact List.mem_cons_of_mem _ ha
  | true => exact ha
/-- the frame of a state -/
noncomputable def slots (n : Nat) (F : Fr) : List V := lmap (fun t => Tr.getP V.undef (path t) F) (iota n 0)
noncomputable def maskF (lv : List Nat) (n : Nat) (F : Fr) : List V := lmap (fun t => Bool.casesOn (motive := fun _ => V) (lany (Nat.beq t) lv) .any (Tr.getP V.undef (path t) F)) (iota n 0)
noncomputable def canon (B n : Nat) (lv : List Nat) (F : Fr) (H : Heap) : Option Can := canonV B (slots n F) (maskF lv n F) H
theorem slots_get {n : Nat} {F : Fr} {t : Nat} (h : t < n) : (slots n F)[t]? = some (F.get V.undef t) := by
  unfold slots
  rw [lmap_eq, List.getElem?_map, iota_get n 0 t h, Nat.zero_add]
  rfl
theorem seen_WS {P : Program} {G B n : Nat} {rd : Bool} {c : Code} {F : Fr} {H : Heap} {Q : X → Fr → Heap → Prop} {k : Can} (hs : Seen B (slots n F) H k) (h : WS P G B n rd c (frame0 k.vs 0 .nil) (mkH k.l) Q) : WS P G B n rd c F H Q := by
  obtain ⟨σ, h1, h2⟩ := hs
  refine WS_view h1 (fun t ht => ?_) h
  have hlen : n = k.vs.length := by
    rw [← h2.length]
    unfold slots
    rw [lmap_eq, List.length_map, iota_length]
  have ht2 : t < k.vs.length := by omega
  obtain ⟨y, e1, e2⟩ := h2.get t k.vs[t] (List.getElem?_eq_getElem ht2)
  rw [slots_get ht] at e1
  cases e1
  rw [frame0_get, if_pos (by omega), Nat.sub_zero, List.getElem?_eq_getElem ht2]
  exact e2
end Go.Ev
