/- The abstract evaluator of the model: texts Ag Ah Ai Aj Ak Al. -/
import Derived.Test.YtofkmenlcnjolaaGreatDoorE5
/- The abstract evaluator, part Ag: the operations of one stage; extensions with blocks that stand out. -/
namespace Go.Ev
section
variable {N : Fns} {T : Ty} {ol : List Oper} {B : Nat} {cf : CF}

theorem runIns_app (a : List Ins) : ∀ (b : List Ins) (F : Fr) (H : Heap) (r : Fr × Heap), runIns cf (a ++ b) F H = some r → ∃ F1 H1, runIns cf a F H = some (F1, H1) ∧ runIns cf b F1 H1 = some r := by
  induction a with
  | nil => intro b F H r h; exact ⟨F, H, rfl, h⟩
  | cons i a ih =>
    intro b F H r h
    cases i with
    | ex s =>
      obtain ⟨⟨F1, H1⟩, h1, h2⟩ := obind_some.1 (show obind (exec cf s F H) (fun r => runIns cf (a ++ b) r.1 r.2) = some r from h)
      obtain ⟨F2, H2, h3, h4⟩ := ih b F1 H1 r h2
      exact ⟨F2, H2, obind_some.2 ⟨(F1, H1), h1, h3⟩, h4⟩
    | re s =>
      obtain ⟨h1, h2⟩ := oif_some.1 (show oif (again s F H) (runIns cf (a ++ b) F H) = some r from h)
      obtain ⟨F2, H2, h3, h4⟩ := ih b F H r h2
      exact ⟨F2, H2, oif_some.2 ⟨h1, h3⟩, h4⟩

theorem re_ok (f : Info → Step) : ∀ (l : List Info) (F : Fr) (H : Heap) (r : Fr × Heap), runIns cf (lmap (fun i => Ins.re (f i)) l) F H = some r → r = (F, H) ∧ ∀ i ∈ l, again (f i) F H = true := by
  intro l
  induction l with
  | nil => intro F H r h; cases h; exact ⟨rfl, by simp⟩
  | cons i l ih =>
    intro F H r h
    obtain ⟨h1, h2⟩ := oif_some.1 (show oif (again (f i) F H) (runIns cf (lmap (fun i => Ins.re (f i)) l) F H) = some r from h)
    obtain ⟨h3, h4⟩ := ih F H r h2
    refine ⟨h3, fun j hj => ?_⟩
    rcases List.mem_cons.1 hj with rfl | hj
    · exact h1
    · exact h4 j hj

theorem Rel.htop {φ : Phi} {H : Heap} {w : World} (hr : Rel φ H w) : ∀ b, H.next ≤ b → H.get b = .none := fun _ h => (hr.top h).2

/-- the block that an operation which stands out has made -/
def NewAt (N : Fns) (T : Ty) (ol : List Oper) (o : Oper) (F : Fr) (id : Nat) : Prop :=
  ∃ t xs g cs sh, o.dst = some t ∧ wantOf ol o.guard F = some true ∧ cop N T o.op = .pu xs g ∧ g (vals xs F) = some (.new cs sh) ∧ F.get V.undef t = Shape.mk sh id
def Dist (N : Fns) (T : Ty) (ol : List Oper) (D : Oper → Prop) (F : Fr) : Prop := ∀ x y, D x → D y → ∀ id, NewAt N T ol x F id → NewAt N T ol y F id → x = y
theorem mk_inj {s s' : Shape} {a b : Nat} (h : s.mk a = s'.mk b) : a = b := by
  cases s <;> cases s' <;> simp only [Shape.mk] at h <;> cases h <;> rfl
theorem NewAt.congr {o : Oper} {F F' : Fr} {id : Nat} (h : NewAt N T ol o F' id) (hF : ∀ t, touches ol o t = true → F'.get V.undef t = F.get V.undef t) : NewAt N T ol o F id := by
  obtain ⟨t, xs, g, cs, sh, h1, h2, h3, h4, h5⟩ := h
  have hr : ∀ t, reads ol o t = true → F'.get V.undef t = F.get V.undef t := fun t h => hF t (by unfold touches; rw [h]; simp)
  have hd : F'.get V.undef t = F.get V.undef t := hF t (by unfold touches; rw [odEq_iff.2 h1]; rfl)
  refine ⟨t, xs, g, cs, sh, h1, (want_congr hr).symm.trans h2, h3, ?_, hd.symm.trans h5⟩
  rw [← looks_congr (pu_looks h3) hr]; exact h4
theorem NewAt.lt {o : Oper} {F : Fr} {H : Heap} {φ : Phi} {id : Nat} (h : NewAt N T ol o F id) (hp : Pend N T ol B o F H φ) : id < H.next := by
  obtain ⟨t, xs, g, cs, sh, h1, h2, h3, h4, h5⟩ := h
  obtain ⟨t', h1', hp⟩ := hp
  rw [h1] at h1'
  cases h1'
  rcases hp with ⟨e1, _⟩ | ⟨_, xs', g', r, e2, e3, e4⟩ | ⟨_, xs', g', e2, _⟩
  · rw [h2] at e1; cases e1
  · rw [h3] at e2
    cases e2
    rw [h4] at e3
    cases e3
    rcases e4 with ⟨v, e, _⟩ | ⟨cs', sh', id', e, e5, _, _, e6, _⟩
    · cases e
    · cases e
      rw [h5] at e5
      rw [mk_inj e5]; exact e6
  · rw [h3] at e2; cases e2

theorem stage_run {φ : Phi} {w : World} (us : List Info) : ∀ (F : Fr) (H : Heap) (F' : Fr) (H' : Heap) (D : Oper → Prop),
    (∀ u ∈ us, u.s = stepOf N T ol u.o ∧ isEff (cop N T u.o.op) = false ∧ ∃ t, u.o.dst = some t ∧ reads ol u.o t = false) →
    (∀ x u, D x → u ∈ us → ∀ t, u.o.dst = some t → touches ol x t = false) →
    us.Pairwise (fun u1 u2 => ∀ t, u2.o.dst = some t → touches ol u1.o t = false) →
    Rel φ H w → B ≤ H.next → (∀ x, D x → Pend N T ol B x F H φ) → Dist N T ol D F → runIns cf (lmap (fun i => Ins.ex i.s) us) F H = some (F', H') →
    Rel φ H' w ∧ (∀ x, D x → Pend N T ol B x F' H' φ) ∧ (∀ u ∈ us, Pend N T ol B u.o F' H' φ) ∧ (∀ t, (∀ u ∈ us, u.o.dst ≠ some t) → F'.get V.undef t = F.get V.undef t) ∧ H.next ≤ H'.next ∧ (∀ b, b < H.next → H'.get b = H.get b) ∧
    Dist N T ol (fun x => D x ∨ ∃ u ∈ us, x = u.o) F' := by
  induction us with
  | nil =>
    intro F H F' H' D _ _ _ hr _ hD hdi h
    cases h
    refine ⟨hr, hD, by simp, fun _ _ => rfl, Nat.le_refl _, fun _ _ => rfl, ?_⟩
    rintro x y (hx | ⟨u, hu, _⟩) (hy | ⟨v, hv, _⟩) id
    · exact hdi x y hx hy id
    · cases hv
    · cases hu
    · cases hu
  | cons u us ih =>
    intro F H F' H' D hu hx hpw hr hB hD hdi h
    obtain ⟨⟨F1, H1⟩, h1, h2⟩ := obind_some.1 (show obind (exec cf u.s F H) (fun r => runIns cf (lmap (fun i => Ins.ex i.s) us) r.1 r.2) = some (F', H') from h)
    obtain ⟨hs, hE, t, ht, hself⟩ := hu u (by simp)
    rw [hs] at h1
    obtain ⟨p1, p2, p3, p4⟩ := Pend.first (B := B) ht hE hself (φ := φ) (fun b hb => (hr.top hb).1) hB h1
    have hr1 : Rel φ H1 w := by
      rcases p3 with rfl | ⟨cs, rfl⟩
      · exact hr
      · exact rel_push hr
    have hn1 : H.next ≤ H1.next := by
      rcases p3 with rfl | ⟨cs, rfl⟩
      · exact Nat.le_refl _
      · show H.next ≤ H.next + 1; omega
    have hg1 : ∀ b, b < H.next → H1.get b = H.get b := by
      intro b hb
      rcases p3 with rfl | ⟨cs, rfl⟩
      · rfl
      · rw [Heap.get_push, if_neg (by omega)]
    have hF1 : ∀ x, D x → ∀ s, touches ol x s = true → F1.get V.undef s = F.get V.undef s := by
      intro x hx1 s hs
      refine p2 s (fun e => ?_)
      have := hx x u hx1 (by simp) t ht
      rw [e, this] at hs
      cases hs
    have hD1 : ∀ x, (D x ∨ x = u.o) → Pend N T ol B x F1 H1 φ := by
      rintro x (hx1 | rfl)
      · refine (hD x hx1).keep (hF1 x hx1) (fun id cs e1 e2 e3 => ⟨by rw [hg1 id e3]; exact e1, e2, by omega⟩) (fun xs g v e1 e2 e3 _ => ?_)
        rcases p3 with rfl | ⟨cs, rfl⟩
        · exact e3
        · exact rd_push e1 hr.htop e3
      · exact p1
    have hnew : ∀ id, NewAt N T ol u.o F1 id → H.next ≤ id := by
      intro id ⟨t', xs, g, cs, sh, e1, e2, e3, e4, e5⟩
      rw [ht] at e1
      cases e1
      have := p4 xs g cs sh e2 e3 e4
      rw [e5] at this
      exact Nat.le_of_eq (mk_inj this).symm
    have hdi1 : Dist N T ol (fun x => D x ∨ x = u.o) F1 := by
      rintro x y (hx1 | rfl) (hy1 | rfl) id n1 n2
      · exact hdi x y hx1 hy1 id (n1.congr (hF1 x hx1)) (n2.congr (hF1 y hy1))
      · have := (n1.congr (hF1 x hx1)).lt (hD x hx1)
        have := hnew id n2
        omega
      · have := (n2.congr (hF1 y hy1)).lt (hD y hy1)
        have := hnew id n1
        omega
      · rfl
    obtain ⟨q1, q2, q3, q4, q5, q6, q7⟩ := ih F1 H1 F' H' (fun x => D x ∨ x = u.o) (fun v hv => hu v (by simp [hv])) (fun x v hxv hv s hs => by
        rcases hxv with h | rfl
        · exact hx x v h (by simp [hv]) s hs
        · exact (List.pairwise_cons.1 hpw).1 v hv s hs) (List.pairwise_cons.1 hpw).2 hr1 (by omega) hD1 hdi1 h2
    refine ⟨q1, fun x h => q2 x (.inl h), fun v hv => ?_, fun s hs => ?_, by omega, fun b hb => by rw [q6 b (by omega), hg1 b hb], ?_⟩
    · rcases List.mem_cons.1 hv with rfl | hv
      · exact q2 _ (.inr rfl)
      · exact q3 v hv
    · rw [q4 s (fun v hv => hs v (by simp [hv])), p2 s (fun e => hs u (by simp) (by rw [e]; exact ht))]
    · intro x y hx1 hy1
      have conv : ∀ z, (D z ∨ ∃ v ∈ u :: us, z = v.o) → ((D z ∨ z = u.o) ∨ ∃ v ∈ us, z = v.o) := by
        rintro z (h | ⟨v, hv, rfl⟩)
        · exact .inl (.inl h)
        · rcases List.mem_cons.1 hv with rfl | hv
          · exact .inl (.inr rfl)
          · exact .inr ⟨v, hv, rfl⟩
      exact q7 x y (conv x hx1) (conv y hy1)

/-- blocks that the abstract heap alone has -/
theorem ext_grow {φ0 φ : Phi} {H0 H H' : Heap} {w0 w : World} (h : Ext φ0 H0 w0 φ H w) (hr : Rel φ H' w) (hn : H.next ≤ H'.next) (hg : ∀ b, b < H.next → H'.get b = H.get b) : Ext φ0 H0 w0 φ H' w :=
  ⟨hr, h.le, h.fresh, fun hb h0 hng => by rw [hg _ (Nat.lt_of_lt_of_le hb h.next)]; exact h.keepA hb h0 hng, Nat.le_trans h.next hn, h.keepC, h.size, h.same, fun {b l} e1 e2 => let ⟨g1, g2⟩ := h.keepN e1 e2; ⟨by rw [hg b (Nat.lt_of_not_le fun hb => by have := h.le b l e1; rw [(h.rel.top hb).1] at this; cases this)]; exact g1, g2⟩⟩
/-- such a block is made in the world -/
theorem ext_made {φ0 φ : Phi} {H0 H : Heap} {w0 w w' : World} (h : Ext φ0 H0 w0 φ H w) {b : Nat} {cs : List V} (hb : H.get b = .cells cs 0) (hn : φ b = none) (hlt : b < H.next) (hB : H0.next ≤ b) {lim : Nat} (hw : NewOk φ (.cells cs 0) lim w w') :
    Ext φ0 H0 w0 (φ.add b ⟨w.heap.size, 0, lim⟩) H w' := by
  refine ⟨rel_new h.rel hb hn hlt hw, Phi.le_trans h.le (Phi.le_add hn), ?_, h.keepA, h.next, ?_, by rw [hw.size]; have := h.size; omega, h.same.trans hw.same, fun {b l} e1 e2 => let ⟨g1, g2⟩ := h.keepN e1 e2; ⟨g1, (hw.old l.c (h.rel.loc (h.le b l e1))).trans g2⟩⟩
  · intro x l e1 e2
    unfold Phi.add at e2
    split at e2
    · rename_i e
      subst e
      cases e2
      exact ⟨hB, .inl h.size⟩
    · exact h.fresh e1 e2
  · intro c hc hno
    rw [hw.old c (Nat.lt_of_lt_of_le hc h.size)]
    exact h.keepC hc hno
end
end Go.Ev
/- The abstract evaluator, part Ah: the plan of a region that draws its order. -/
namespace Go.Ev
theorem lfilter_eq {α : Type} (f : α → Bool) (l : List α) : lfilter f l = l.filter f := by
  induction l with
  | nil => rfl
  | cons a l ih =>
    have e : lfilter f (a :: l) = Bool.casesOn (motive := fun _ => List α) (f a) (lfilter f l) (a :: lfilter f l) := rfl
    rw [e, ih]
    cases h : f a <;> simp [h]
section
variable {N : Fns} {T : Ty}
noncomputable def mkInfo (N : Fns) (T : Ty) (ol : List Oper) (i : Nat) (o : Oper) : Info := ⟨i, o, maskAt ol i, stepOf N T ol o, isEff (cop N T o.op)⟩

theorem infos_get {all : List Oper} : ∀ (l : List Oper) (ms : List Nat) (k i : Nat), (infos N T all l ms k)[i]? = (l[i]?).map (fun o => ⟨k + i, o, (ms[i]?).getD 0, stepOf N T all o, isEff (cop N T o.op)⟩) := by
  intro l
  induction l with
  | nil => intro ms k i; rfl
  | cons o l ih =>
    intro ms k i
    have e : infos N T all (o :: l) ms k = ⟨k, o, lget 0 ms 0, stepOf N T all o, isEff (cop N T o.op)⟩ :: infos N T all l (ldrop ms 1) (k + 1) := rfl
    rw [e]
    cases i with
    | zero => simp [lget_eq]
    | succ i =>
      rw [List.getElem?_cons_succ, ih, ldrop_eq, List.getElem?_cons_succ]
      have e1 : k + 1 + i = k + (i + 1) := by omega
      simp [e1]
noncomputable def allInfos (N : Fns) (T : Ty) (ol : List Oper) : List Info := infos N T ol ol (masks ol []) 0
theorem all_get (ol : List Oper) (i : Nat) : (allInfos N T ol)[i]? = (ol[i]?).map (mkInfo N T ol i) := by
  unfold allInfos
  rw [infos_get]
  congr 1
  funext o
  simp [mkInfo, maskAt, lget_eq]
theorem all_mem {ol : List Oper} {x : Info} : x ∈ allInfos N T ol ↔ ∃ i o, ol[i]? = some o ∧ x = mkInfo N T ol i o := by
  rw [List.mem_iff_getElem?]
  constructor
  · rintro ⟨i, h⟩
    rw [all_get] at h
    obtain ⟨o, h1, h2⟩ := Option.map_eq_some_iff.1 h
    exact ⟨i, o, h1, h2.symm⟩
  · rintro ⟨i, o, h1, rfl⟩
    exact ⟨i, by rw [all_get, h1]; rfl⟩
theorem all_sorted (ol : List Oper) : (allInfos N T ol).Pairwise (fun a b => a.ix < b.ix) := by
  rw [List.pairwise_iff_getElem]
  intro i j hi hj hij
  have h1 := all_get (N := N) (T := T) ol i
  have h2 := all_get (N := N) (T := T) ol j
  rw [List.getElem?_eq_getElem hi] at h1
  rw [List.getElem?_eq_getElem hj] at h2
  obtain ⟨o1, _, e1⟩ := Option.map_eq_some_iff.1 h1.symm
  obtain ⟨o2, _, e2⟩ := Option.map_eq_some_iff.1 h2.symm
  rw [← e1, ← e2]
  exact hij
theorem all_ix {ol : List Oper} {x y : Info} (hx : x ∈ allInfos N T ol) (hy : y ∈ allInfos N T ol) (h : x.ix = y.ix) : x = y := by
  obtain ⟨i, o, h1, rfl⟩ := all_mem.1 hx
  obtain ⟨j, o', h2, rfl⟩ := all_mem.1 hy
  have e : i = j := h
  subst e
  rw [h1] at h2
  cases h2
  rfl

theorem chain_spec {ol : List Oper} (hE : edgesOk ol 0 = true) : ∀ {l : List Info}, (∀ x ∈ l, x.mask = maskAt ol x.ix) → chainOk l = true → l.Pairwise (fun a b => Pred ol b.ix a.ix) := by
  intro l
  induction l with
  | nil => intro _ _; exact .nil
  | cons a l ih =>
    intro hm h
    have h' : and (chainOk l) (List.casesOn (motive := fun _ => Bool) l true (fun b _ => hasBit b.mask a.ix)) = true := h
    rw [Bool.and_eq_true] at h'
    have ihl := ih (fun x hx => hm x (by simp [hx])) h'.1
    refine List.pairwise_cons.2 ⟨?_, ihl⟩
    cases l with
    | nil => simp
    | cons b l =>
      have hb : Pred ol b.ix a.ix := by
        unfold Pred
        rw [← hm b (by simp)]
        exact h'.2
      intro c hc
      rcases List.mem_cons.1 hc with rfl | hc
      · exact hb
      · exact pred_trans hE ((List.pairwise_cons.1 ihl).1 c hc) hb

theorem countE_eq (es : List Info) (m : Nat) : countE es m = (es.filter (fun e => hasBit m e.ix)).length := by
  induction es with
  | nil => rfl
  | cons e es ih =>
    have h : countE (e :: es) m = Bool.casesOn (motive := fun _ => Nat) (hasBit m e.ix) (countE es m) (Nat.succ (countE es m)) := rfl
    rw [h, ih]
    cases hb : hasBit m e.ix <;> simp [hb]

/-- the effects of r do not bind x -/
def Stg (ol : List Oper) (x : Info) (r : List Info) : Prop := ∀ e ∈ r, ¬ Pred ol x.ix e.ix
theorem stg_iff {ol : List Oper} (hE : edgesOk ol 0 = true) {done r : List Info} (hp : (done ++ r).Pairwise (fun a b => Pred ol b.ix a.ix)) {x : Info} (hx : x.mask = maskAt ol x.ix) : countE (done ++ r) x.mask ≤ done.length ↔ Stg ol x r := by
  rw [countE_eq, hx, List.filter_append, List.length_append]
  constructor
  · intro h e he hpr
    have hd : done.filter (fun e => hasBit (maskAt ol x.ix) e.ix) = done := by
      rw [List.filter_eq_self]
      intro d hd
      exact pred_trans hE hpr ((List.pairwise_append.1 hp).2.2 d hd e he)
    rw [hd] at h
    have : 0 < (r.filter (fun e => hasBit (maskAt ol x.ix) e.ix)).length := List.length_pos_of_mem (List.mem_filter.2 ⟨he, hpr⟩)
    omega
  · intro h
    have hr : r.filter (fun e => hasBit (maskAt ol x.ix) e.ix) = [] := by
      rw [List.filter_eq_nil_iff]
      intro e he hpr
      exact h e he hpr
    rw [hr]
    have := List.length_filter_le (fun e : Info => hasBit (maskAt ol x.ix) e.ix) done
    simpa using this

theorem tmps_spec {ol : List Oper} (h : tmpsOk ol (allInfos N T ol) = true) {k : Info} (hk : k ∈ allInfos N T ol) :
    (k.o.dst = none → k.isE = true) ∧ ∀ t, k.o.dst = some t → (k.isE = true ∨ reads ol k.o t = false) ∧ ∀ i ∈ allInfos N T ol, i.ix = k.ix ∨ touches ol i.o t = false ∨ Pred ol i.ix k.ix ∨ (k.isE = true ∧ Pred ol k.ix i.ix) := by
  have h1 := lall_iff.1 h k hk
  have hmask : ∀ i ∈ allInfos N T ol, i.mask = maskAt ol i.ix := by
    intro i hi
    obtain ⟨j, o, _, rfl⟩ := all_mem.1 hi
    rfl
  constructor
  · intro hd
    rw [hd] at h1
    exact h1
  · intro t ht
    rw [ht] at h1
    simp only [Bool.and_eq_true, Bool.or_eq_true, Bool.not_eq_true'] at h1
    refine ⟨h1.1, fun i hi => ?_⟩
    have h2 := lall_iff.1 h1.2 i hi
    simp only [Bool.and_eq_true, Bool.or_eq_true, Bool.not_eq_true', beq_eq] at h2
    rcases h2 with h2 | h2 | h2 | h2
    · exact .inl h2
    · exact .inr (.inl h2)
    · exact .inr (.inr (.inl (by unfold Pred; rw [← hmask i hi]; exact h2)))
    · exact .inr (.inr (.inr ⟨h2.1, by unfold Pred; rw [← hmask k hk]; exact h2.2⟩))
end
end Go.Ev
/- The abstract evaluator, part Ai: a region that draws its order, whatever the order. -/
namespace Go.Ev
section
variable {P : Program} {N : Fns} {T : Ty} {G : Nat} {cf : CF} {ops : Array Oper}

theorem want_ok' {φ : Phi} {F : Fr} {a : Act} (hd : ∀ o ∈ ops.toList, odOk a.tmps.size o.dst = true) (o : Oper) (hf : ∀ t, reads ops.toList o t = true → t < a.tmps.size → Rv φ (F.get V.undef t) (a.tmps.getD t undef)) {wb : Bool} (hwb : wantOf ops.toList o.guard F = some wb) :
    Region.wanted o (yielded ops a.tmps) = wb := by
  refine want_core (φ := φ) o hwb (fun j b t h1 h2 => ?_)
  have hr : reads ops.toList o t = true := by
    unfold reads
    rw [Bool.or_eq_true, h1]
    exact .inr (by simp only [h2]; exact odEq_iff.2 rfl)
  obtain ⟨oj, hj, hdst⟩ := obind_some.1 (show obind (lget? ops.toList j) (fun o => o.dst) = some t from h2)
  rw [lget?_eq] at hj
  have ht := hd oj (List.mem_of_getElem? hj)
  rw [hdst] at ht
  have ht' : t < a.tmps.size := (ble_le _ _).1 ht
  exact ⟨ht', hf t hr ht'⟩

def Lp (listed : Array Bool) (i : Nat) : Prop := listed.getD i false = true
/-- stands out: executed in the abstract, not in the world -/
def Out (N : Fns) (T : Ty) (ops : Array Oper) (r : List Info) (listed : Array Bool) (x : Info) : Prop :=
  x ∈ allInfos N T ops.toList ∧ x.isE = false ∧ Stg ops.toList x r ∧ ¬ Lp listed x.ix

structure Conf (N : Fns) (T : Ty) (G : Nat) (ops : Array Oper) (φ0 : Phi) (H0 : Heap) (w0 : World) (done r : List Info) (F : Fr) (H : Heap) (listed : Array Bool) (a : Act) (w : World) (φ : Phi) : Prop where
  split : (allInfos N T ops.toList).filter (fun i => i.isE) = done ++ r
  size : listed.size = ops.size
  closed : Closed ops.toList (Lp listed)
  eff : ∀ e ∈ done ++ r, (Lp listed e.ix ↔ e ∈ done)
  ne : ∀ x ∈ allInfos N T ops.toList, x.isE = false → Lp listed x.ix → Stg ops.toList x r
  ext : Ext φ0 H0 w0 φ H w
  glob : GlobOk G φ
  tmps : ∀ t, t < a.tmps.size → (∀ x, Out N T ops r listed x → x.o.dst ≠ some t) → Rv φ (F.get V.undef t) (a.tmps.getD t undef)
  pend : ∀ x, Out N T ops r listed x → Pend N T ops.toList H0.next x.o F H φ
  dist : Dist N T ops.toList (fun o => ∃ x, Out N T ops r listed x ∧ o = x.o) F

theorem Lp_set {listed : Array Bool} {i j : Nat} (hi : i < listed.size) : Lp (listed.setIfInBounds i true) j ↔ j = i ∨ Lp listed j := by
  unfold Lp
  by_cases h : i = j
  · subst h
    simp [hi]
  · have h' : ¬ j = i := fun e => h e.symm
    simp [Array.getElem?_setIfInBounds_ne h, h']
theorem Out_set {r : List Info} {listed : Array Bool} {i : Nat} (hi : i < listed.size) {x : Info} : Out N T ops r (listed.setIfInBounds i true) x ↔ Out N T ops r listed x ∧ x.ix ≠ i := by
  unfold Out
  rw [Lp_set hi]
  constructor
  · rintro ⟨h1, h2, h3, h4⟩
    exact ⟨⟨h1, h2, h3, fun h => h4 (.inr h)⟩, fun h => h4 (.inl h)⟩
  · rintro ⟨⟨h1, h2, h3, h4⟩, h5⟩
    exact ⟨h1, h2, h3, fun h => h.elim h5 h4⟩

variable {φ0 : Phi} {H0 : Heap} {w0 : World} {done r : List Info} {F : Fr} {H : Heap} {listed : Array Bool} {a : Act} {w : World} {φ : Phi}

theorem binds_any (e : Edge) : Region.binds .any e = bindsE e := by
  unfold Region.binds bindsE
  cases e.ground <;> rfl
/-- an operation that is ready -/
theorem ready_spec {i : Nat} (h : i ∈ Region.ready .any ops listed) : ∃ o, ops[i]? = some o ∧ ops.toList[i]? = some o ∧ ¬ Lp listed i ∧ i < listed.size ∧ ∀ e ∈ o.after.toList, bindsE e = true → Lp listed e.on := by
  obtain ⟨h1, o, h2, h3⟩ := mem_ready.1 h
  have hlt : i < listed.size := by
    rcases Nat.lt_or_ge i listed.size with h' | h'
    · exact h'
    · simp [Array.getElem?_eq_none h'] at h1
  refine ⟨o, h2, by simpa using h2, ?_, hlt, fun e he hb => ?_⟩
  · unfold Lp
    simp [hlt] at h1
    simp [hlt, h1]
  · exact h3 e (by simpa using he) (by rw [binds_any]; exact hb)

theorem conf_closed (hc : Conf N T G ops φ0 H0 w0 done r F H listed a w φ) {i : Nat} {o : Oper} (ho : ops.toList[i]? = some o) (hi : i < listed.size) (hr : ∀ e ∈ o.after.toList, bindsE e = true → Lp listed e.on) : Closed ops.toList (Lp (listed.setIfInBounds i true)) := by
  intro j o' hj ho' e he hb
  rw [Lp_set hi] at hj ⊢
  rcases hj with rfl | hj
  · rw [ho] at ho'
    cases ho'
    exact .inr (hr e he hb)
  · exact .inr (hc.closed j o' hj ho' e he hb)

/-- after an operation that does not write -/
theorem conf_ne (hc : Conf N T G ops φ0 H0 w0 done r F H listed a w φ) {x : Info} (hx : Out N T ops r listed x) {t : Nat} (ht : x.o.dst = some t) (hi : x.ix < listed.size)
    (hr : ∀ e ∈ x.o.after.toList, bindsE e = true → Lp listed e.on) {ψ : Phi} {w' : World} {v' : Value} (hext : Ext φ0 H0 w0 ψ H w') (hle : φ.le ψ) (hv : Rv ψ (F.get V.undef t) v')
    (hp : ∀ y, Out N T ops r listed y → y.ix ≠ x.ix → Pend N T ops.toList H0.next y.o F H ψ) :
    Conf N T G ops φ0 H0 w0 done r F H (listed.setIfInBounds x.ix true) (a.put (some t) v') w' ψ := by
  obtain ⟨hx1, hx2, hx3, hx4⟩ := hx
  obtain ⟨i, o, hio, hxe⟩ := all_mem.1 hx1
  have ho : ops.toList[x.ix]? = some x.o := by rw [hxe]; exact hio
  refine ⟨hc.split, by simp [hc.size], conf_closed hc ho hi hr, ?_, ?_, hext, hc.glob.mono hle, ?_, ?_, ?_⟩
  · intro e he
    rw [Lp_set hi, ← hc.eff e he]
    constructor
    · rintro (h | h)
      · have hem : e ∈ allInfos N T ops.toList ∧ e.isE = true := by
          rw [← hc.split] at he
          exact List.mem_filter.1 he
        have := all_ix hem.1 hx1 h
        rw [this, hx2] at hem
        cases hem.2
      · exact h
    · exact .inr
  · intro y hy hye hl
    rw [Lp_set hi] at hl
    rcases hl with h | h
    · rw [all_ix hy hx1 h]; exact hx3
    · exact hc.ne y hy hye h
  · intro s hs hno
    rw [put_size] at hs
    by_cases hst : t = s
    · subst hst
      simpa [Act.put, hs] using hv
    · have := hc.tmps s hs (fun y hy hyd => by
        by_cases hyx : y.ix = x.ix
        · rw [all_ix hy.1 hx1 hyx, ht] at hyd
          exact hst (Option.some.inj hyd)
        · exact hno y ((Out_set hi).2 ⟨hy, hyx⟩) hyd)
      have := this.mono hle
      simpa [Act.put, Array.getElem?_setIfInBounds_ne hst] using this
  · intro y hy
    rw [Out_set hi] at hy
    exact hp y hy.1 hy.2
  · rintro o1 o2 ⟨y1, h1, rfl⟩ ⟨y2, h2, rfl⟩ id n1 n2
    rw [Out_set hi] at h1 h2
    exact hc.dist _ _ ⟨y1, h1.1, rfl⟩ ⟨y2, h2.1, rfl⟩ id n1 n2
end
end Go.Ev
/- The abstract evaluator, part Aj: one operation of a region that draws its order. -/
namespace Go.Ev
section
variable {P : Program} {N : Fns} {T : Ty} {G : Nat} {cf : CF} {ops : Array Oper} {ro : Option Nat} {nn : Nat}
variable {φ0 : Phi} {H0 : Heap} {w0 : World} {done r : List Info} {F : Fr} {H : Heap} {listed : Array Bool} {a : Act} {w : World} {φ : Phi}

theorem reads_rel (hE : edgesOk ops.toList 0 = true) (htm : tmpsOk ops.toList (allInfos N T ops.toList) = true) (hc : Conf N T G ops φ0 H0 w0 done r F H listed a w φ) {x : Info} (hx : x ∈ allInfos N T ops.toList)
    (hr : ∀ e ∈ x.o.after.toList, bindsE e = true → Lp listed e.on) {t : Nat} (ht : reads ops.toList x.o t = true) (hs : t < a.tmps.size) : Rv φ (F.get V.undef t) (a.tmps.getD t undef) := by
  refine hc.tmps t hs (fun y hy hyd => ?_)
  obtain ⟨hy1, hy2, hy3, hy4⟩ := hy
  obtain ⟨h1, h2⟩ := (tmps_spec htm hy1).2 t hyd
  have h1' : reads ops.toList y.o t = false := h1.resolve_left (by rw [hy2]; simp)
  obtain ⟨i, o, hio, hxe⟩ := all_mem.1 hx
  rcases h2 x hx with h | h | h | h
  · rw [← all_ix hx hy1 h, ht] at h1'
    cases h1'
  · unfold touches at h
    rw [ht] at h
    simp at h
  · refine hy4 (closed_pred hE hc.closed (fun o' ho' => ?_) h)
    have : ops.toList[x.ix]? = some x.o := by rw [hxe]; exact hio
    rw [this] at ho'
    cases ho'
    exact hr
  · rw [hy2] at h
    cases h.1
theorem op_rel (hE : edgesOk ops.toList 0 = true) (htm : tmpsOk ops.toList (allInfos N T ops.toList) = true) (hok : ∀ o ∈ ops.toList, operOk G a.tmps.size o = true) (hc : Conf N T G ops φ0 H0 w0 done r F H listed a w φ) {x : Info} (hx : x ∈ allInfos N T ops.toList)
    (hr : ∀ e ∈ x.o.after.toList, bindsE e = true → Lp listed e.on) : OpRel φ F a.eval x.o.op.operands.toList ∧ (∀ {wb : Bool}, wantOf ops.toList x.o.guard F = some wb → Region.wanted x.o (yielded ops a.tmps) = wb) := by
  obtain ⟨i, o, hio, hxe⟩ := all_mem.1 hx
  have hmem : x.o ∈ ops.toList := by rw [hxe]; exact List.mem_of_getElem? hio
  have ho := hok x.o hmem
  unfold operOk at ho
  rw [Bool.and_eq_true] at ho
  constructor
  · intro y hy f hf
    have hin := opdOk_in (lall_iff.1 ho.2 y hy)
    cases y with
    | tmp t =>
      cases hf
      exact reads_rel hE htm hc hx hr (reads_tmp hy) hin
    | const v =>
      obtain ⟨u, hu, hf⟩ := obind_some.1 (show obind (toV 20 v) (fun y => some (fun _ => y)) = some f from hf)
      cases hf
      exact toV_sound φ _ _ _ hu
    | global g =>
      cases hf
      obtain ⟨lim, e⟩ := hc.glob g hin
      exact .ptr e
    | func f' => cases hf; exact .func f' .nil .nil
  · exact fun h => want_ok' (fun o h => by have := hok o h; unfold operOk at this; rw [Bool.and_eq_true] at this; exact this.1) x.o (fun t h1 h2 => reads_rel hE htm hc hx hr h1 h2) h

theorem Pend.add {ol : List Oper} {B : Nat} {o : Oper} {id : Nat} {l : Loc} (hp : Pend N T ol B o F H φ) (hne : ∀ id', NewAt N T ol o F id' → id' ≠ id) : Pend N T ol B o F H (φ.add id l) := by
  obtain ⟨t, ht, hp⟩ := hp
  refine ⟨t, ht, ?_⟩
  rcases hp with h | ⟨h1, xs, g, q, h2, h3, h4⟩ | h
  · exact .inl h
  · refine .inr (.inl ⟨h1, xs, g, q, h2, h3, ?_⟩)
    rcases h4 with h | ⟨cs, sh, id', rfl, h5, h6, h7, h8, h9⟩
    · exact .inl h
    · refine .inr ⟨cs, sh, id', rfl, h5, h6, ?_, h8, h9⟩
      unfold Phi.add
      rw [if_neg (hne id' ⟨t, xs, g, cs, sh, ht, h1, h2, h3, h5⟩)]
      exact h7
  · exact .inr (.inr h)
theorem oper_ne (hE : edgesOk ops.toList 0 = true) (htm : tmpsOk ops.toList (allInfos N T ops.toList) = true) {x y : Info} (hx : x ∈ allInfos N T ops.toList) (hy : y ∈ allInfos N T ops.toList) (hxe : x.isE = false) (hye : y.isE = false) (h : y.o = x.o) {t : Nat} (ht : x.o.dst = some t) : y.ix = x.ix := by
  have ht' : y.o.dst = some t := by rw [h]; exact ht
  have tx : touches ops.toList x.o t = true := by unfold touches; rw [odEq_iff.2 ht]; rfl
  have ty : touches ops.toList y.o t = true := by unfold touches; rw [odEq_iff.2 ht']; rfl
  rcases ((tmps_spec htm hx).2 t ht).2 y hy with e | e | e | e
  · exact e
  · rw [ty] at e; cases e
  · rcases ((tmps_spec htm hy).2 t ht').2 x hx with f | f | f | f
    · exact f.symm
    · rw [tx] at f; cases f
    · have := pred_lt hE e
      have := pred_lt hE f
      omega
    · rw [hye] at f; cases f.1
  · rw [hxe] at e; cases e.1

theorem ne_step {Q : Exit → Act → World → Prop} (hT : TOk P T) (hN : NOk P N) (hE : edgesOk ops.toList 0 = true) (htm : tmpsOk ops.toList (allInfos N T ops.toList) = true) (hok : ∀ o ∈ ops.toList, operOk G a.tmps.size o = true)
    (hc : Conf N T G ops φ0 H0 w0 done r F H listed a w φ) {x : Info} (hx : Out N T ops r listed x) (hxo : ops[x.ix]? = some x.o) (hi : x.ix < listed.size) (hr : ∀ e ∈ x.o.after.toList, bindsE e = true → Lp listed e.on) {K : Act → World → Prop}
    (hK : ∀ a' w' ψ, Conf N T G ops φ0 H0 w0 done r F H (listed.setIfInBounds x.ix true) a' w' ψ → a'.tmps.size = a.tmps.size → a'.defers = a.defers → K a' w') : wpOpIn (fw ro) nn P ops Q x.ix K a w := by
  obtain ⟨ho, hw⟩ := op_rel hE htm hok hc hx.1 hr
  have hρ : ∀ f, a.eval (.func f) = .func (.func f) #[] #[] := fun f => rfl
  obtain ⟨t, ht, hp⟩ := hc.pend x hx
  have hfin : ∀ {ψ : Phi} {w' : World} {v' : Value}, Ext φ0 H0 w0 ψ H w' → φ.le ψ → Rv ψ (F.get V.undef t) v' → (∀ y, Out N T ops r listed y → y.ix ≠ x.ix → Pend N T ops.toList H0.next y.o F H ψ) → K (a.put x.o.dst v') w' := by
    intro ψ w' v' h1 h2 h3 h4
    rw [ht]
    exact hK _ _ ψ (conf_ne hc hx ht hi hr h1 h2 h3 h4) (put_size _ _ _) (put_defers _ _ _)
  have hself : ∀ y, Out N T ops r listed y → y.ix ≠ x.ix → Pend N T ops.toList H0.next y.o F H φ := fun y hy _ => hc.pend y hy
  unfold wpOpIn
  simp only [hxo]
  rcases hp with ⟨h1, h2⟩ | ⟨h1, xs, g, q, h2, h3, h4⟩ | ⟨h1, xs, g, h2, h3⟩
  · rw [hw h1]
    simp only [Bool.false_eq_true, if_false]
    refine ⟨fun _ _ => trivial, ?_⟩
    exact hfin hc.ext (Phi.le_refl _) (by rw [h2]; exact .tup .nil) hself
  · rw [hw h1]
    simp only [if_true]
    refine ⟨fun _ _ => trivial, ?_⟩
    rw [Oper.semAt_eq _ _ _ (not_defer (N := N) (T := T) (by rw [h2]; simp))]
    have hps := pu_sound hT hN hρ x.o h2 ho h3 w
    rcases h4 with ⟨v, rfl, h5⟩ | ⟨cs, sh, id, rfl, h5, h6, h7, h8, h9⟩
    · obtain ⟨v', e1, e2⟩ := hps
      rw [e1]
      exact hfin hc.ext (Phi.le_refl _) (by rw [h5]; exact e2) hself
    · obtain ⟨v', w', lim, e1, e2, e3⟩ := hps
      rw [e1]
      refine hfin (ext_made hc.ext h6 h7 h8 h9 e2) (Phi.le_add h7) (by rw [h5]; exact e3 _ _ (Phi.add_self _ _ _)) (fun y hy hyx => ?_)
      refine (hc.pend y hy).add (fun id' hn he => hyx ?_)
      subst he
      exact oper_ne hE htm hx.1 hy.1 hx.2.1 hy.2.1 (hc.dist _ _ ⟨y, hy, rfl⟩ ⟨x, hx, rfl⟩ id' hn ⟨t, xs, g, cs, sh, ht, h1, h2, h3, h5⟩) ht
  · rw [hw h1]
    simp only [if_true]
    refine ⟨fun _ _ => trivial, ?_⟩
    rw [Oper.semAt_eq _ _ _ (not_defer (N := N) (T := T) (by rw [h2]; simp))]
    obtain ⟨v', e1, e2⟩ := rd_sound hT hc.ext.rel x.o h2 ho h3
    rw [e1]
    exact hfin hc.ext (Phi.le_refl _) e2 hself
end
end Go.Ev
/- The abstract evaluator, part Ak: an effect of a region that draws its order. -/
namespace Go.Ev
section
variable {P : Program} {N : Fns} {T : Ty} {G : Nat} {ops : Array Oper} {ro : Option Nat} {nn : Nat}
variable {φ0 : Phi} {H0 : Heap} {w0 : World} {done r : List Info} {F : Fr} {H : Heap} {listed : Array Bool} {a : Act} {w : World} {φ : Phi}

noncomputable def tailIns (l es : List Info) (r : List Info) (j : Nat) : List Ins := match r with
  | [] => []
  | e :: r => Ins.ex e.s :: lapp (lmap (fun i => Ins.re i.s) (lfilter (fun i => and (!i.isE) (and (isRd i.s.cop) (and (Nat.ble (countE es i.mask) j) (!(hasBit e.mask i.ix))))) l)) (stages l es r (j + 1))
theorem stages_eq (l es r : List Info) (j : Nat) : stages l es r j = lapp (lmap (fun i => Ins.ex i.s) (atStage l es j)) (tailIns l es r j) := by
  cases r with
  | nil => rw [lapp_eq]; show lmap _ _ = _ ++ []; simp
  | cons e r => rfl

theorem re_runs (f : Info → Step) {Q0 : Fr → Heap → Prop} : ∀ {l : List Info} {F : Fr} {H : Heap}, RunsTo P G (lmap (fun i => Ins.re (f i)) l) F H Q0 → Q0 F H ∧ ∀ i ∈ l, again (f i) F H = true := by
  intro l
  induction l with
  | nil => exact fun h => ⟨h, fun i hi => by cases hi⟩
  | cons i l ih =>
    intro F H h
    have h' : again (f i) F H = true ∧ RunsTo P G (lmap (fun i => Ins.re (f i)) l) F H Q0 := h
    obtain ⟨h1, h2⟩ := ih h'.2
    refine ⟨h1, fun j hj => ?_⟩
    rcases List.mem_cons.1 hj with rfl | hj
    · exact h'.1
    · exact h2 j hj
theorem stage_runs {Q0 : Fr → Heap → Prop} : ∀ {l : List Info} {F : Fr} {H : Heap}, (∀ i ∈ l, isEff i.s.cop = false) → RunsTo P G (lmap (fun i => Ins.ex i.s) l) F H Q0 → ∃ F2 H2, runIns noO (lmap (fun i => Ins.ex i.s) l) F H = some (F2, H2) ∧ Q0 F2 H2 := by
  intro l
  induction l with
  | nil => exact fun _ h => ⟨_, _, rfl, h⟩
  | cons i l ih =>
    intro F H hE h
    have h' : StepTo P G i.s F H fun F1 H1 => RunsTo P G (lmap (fun i => Ins.ex i.s) l) F1 H1 Q0 := h
    have hex : ∃ F1 H1, exec noO i.s F H = some (F1, H1) ∧ RunsTo P G (lmap (fun i => Ins.ex i.s) l) F1 H1 Q0 := by
      rcases h' with ⟨h1, h2⟩ | ⟨h1, h2⟩
      · exact ⟨_, _, by unfold exec; rw [h1], h2⟩
      · have hi := hE i (by simp)
        cases hc : i.s.cop with
        | call xs g => rw [hc] at hi; cases hi
        | nxt x => rw [hc] at hi; cases hi
        | eff xs g => rw [hc] at hi; cases hi
        | bad => rw [hc] at h2; exact h2
        | pu xs g => rw [hc] at h2; exact h2
        | rd xs g => rw [hc] at h2; exact h2
    obtain ⟨F1, H1, h1, h2⟩ := hex
    obtain ⟨F2, H2, h3, h4⟩ := ih (fun j hj => hE j (by simp [hj])) h2
    exact ⟨F2, H2, obind_some.2 ⟨(F1, H1), h1, h3⟩, h4⟩

theorem e_step {Q : Exit → Act → World → Prop} (hT : TOk P T) (hN : NOk P N) (hE : edgesOk ops.toList 0 = true) (htm : tmpsOk ops.toList (allInfos N T ops.toList) = true) (hch : (done ++ r).Pairwise (fun a b => Pred ops.toList b.ix a.ix))
    (hok : ∀ o ∈ ops.toList, operOk G a.tmps.size o = true) (hc : Conf N T G ops φ0 H0 w0 done r F H listed a w φ) {x : Info} (hx : x ∈ allInfos N T ops.toList) (hxE : x.isE = true) (hnl : ¬ Lp listed x.ix) (hxo : ops[x.ix]? = some x.o) (hi : x.ix < listed.size)
    (hr : ∀ e ∈ x.o.after.toList, bindsE e = true → Lp listed e.on) {Q0 : Fr → Heap → Prop} (hrun : RunsTo P G (tailIns (allInfos N T ops.toList) (done ++ r) r done.length) F H Q0) {K : Act → World → Prop}
    (hK : ∀ a' w' ψ r' F2 H2, r = x :: r' → Conf N T G ops φ0 H0 w0 (done ++ [x]) r' F2 H2 (listed.setIfInBounds x.ix true) a' w' ψ → RunsTo P G (tailIns (allInfos N T ops.toList) ((done ++ [x]) ++ r') r' (done ++ [x]).length) F2 H2 Q0 →
      a'.tmps.size = a.tmps.size → a'.defers = a.defers → K a' w') : wpOpIn (fw ro) nn P ops Q x.ix K a w := by
  obtain ⟨ho, hw⟩ := op_rel hE htm hok hc hx hr
  have hxol : ops.toList[x.ix]? = some x.o := by simpa using hxo
  have hxs : x.s = stepOf N T ops.toList x.o ∧ x.mask = maskAt ops.toList x.ix := by
    obtain ⟨i, o, _, rfl⟩ := all_mem.1 hx
    exact ⟨rfl, rfl⟩
  have hcp : ∀ {j : Nat}, Pred ops.toList x.ix j → Lp listed j := fun h => closed_pred hE hc.closed (fun o' ho' => by rw [hxol] at ho'; cases ho'; exact hr) h
  have hxes : x ∈ done ++ r := by rw [← hc.split]; exact List.mem_filter.2 ⟨hx, hxE⟩
  have hxr : x ∈ r := by
    rcases List.mem_append.1 hxes with h | h
    · exact absurd ((hc.eff x hxes).2 h) hnl
    · exact h
  have hrx : ∃ r', r = x :: r' := by
    cases r with
    | nil => cases hxr
    | cons e r' =>
      rcases List.mem_cons.1 hxr with rfl | h
      · exact ⟨r', rfl⟩
      · have hp : Pred ops.toList x.ix e.ix := (List.pairwise_cons.1 (List.pairwise_append.1 hch).2.1).1 x h
        have hed := (hc.eff e (by simp)).1 (hcp hp)
        have := (List.pairwise_append.1 hch).2.2 e hed e (by simp)
        have := pred_lt hE this
        omega
  obtain ⟨r', rfl⟩ := hrx
  -- the abstract run, apart
  have hx1 : StepTo P G x.s F H fun F1 H1 => RunsTo P G (lapp (lmap (fun i => Ins.re i.s) (lfilter (fun i => and (!i.isE) (and (isRd i.s.cop) (and (Nat.ble (countE (done ++ x :: r') i.mask) done.length) (!(hasBit x.mask i.ix))))) (allInfos N T ops.toList))) (stages (allInfos N T ops.toList) (done ++ x :: r') r' (done.length + 1))) F1 H1 Q0 := hrun
  rw [hxs.1] at hx1
  have hlen : (done ++ [x]).length = done.length + 1 := by simp
  have hes : (done ++ [x]) ++ r' = done ++ x :: r' := by simp
  have hmask : ∀ y ∈ allInfos N T ops.toList, y.mask = maskAt ops.toList y.ix ∧ y.s = stepOf N T ops.toList y.o ∧ isEff (cop N T y.o.op) = y.isE := by
    intro y hy
    obtain ⟨i, o, _, rfl⟩ := all_mem.1 hy
    exact ⟨rfl, rfl, rfl⟩
  have hstg1 : ∀ y ∈ allInfos N T ops.toList, (countE (done ++ x :: r') y.mask ≤ done.length ↔ Stg ops.toList y (x :: r')) := fun y hy => stg_iff hE hch (hmask y hy).1
  have hstg2 : ∀ y ∈ allInfos N T ops.toList, (countE (done ++ x :: r') y.mask ≤ done.length + 1 ↔ Stg ops.toList y r') := fun y hy => by
    have := stg_iff (done := done ++ [x]) (r := r') hE (by rw [hes]; exact hch) (hmask y hy).1
    rw [hes, hlen] at this
    exact this
  have hus : ∀ u, u ∈ atStage (allInfos N T ops.toList) (done ++ x :: r') (done.length + 1) ↔ u ∈ allInfos N T ops.toList ∧ u.isE = false ∧ Stg ops.toList u r' ∧ ¬ Stg ops.toList u (x :: r') := by
    intro u
    unfold atStage
    rw [lfilter_eq, List.mem_filter]
    constructor
    · rintro ⟨h1, h2⟩
      rw [Bool.and_eq_true, beq_eq] at h2
      exact ⟨h1, by simpa using h2.1, (hstg2 u h1).1 (by omega), fun h => by have := (hstg1 u h1).2 h; omega⟩
    · rintro ⟨h1, h2, h3, h4⟩
      refine ⟨h1, ?_⟩
      rw [Bool.and_eq_true, beq_eq]
      have e1 := (hstg2 u h1).2 h3
      have e2 := mt (hstg1 u h1).1 h4
      exact ⟨by simp [h2], by omega⟩
  refine step_core hxo hT hN ho hw hc.ext.rel hc.glob hx1 ?_
  intro v v' ψ w' H1 hext hvv hrun1
  generalize hF1 : put F x.o.dst v = F1 at hrun1
  replace hF1 := hF1.symm
  rw [lapp_eq] at hrun1
  obtain ⟨hrun2, hag⟩ := re_runs (fun i => i.s) (RunsTo.app.1 hrun1)
  rw [stages_eq, lapp_eq] at hrun2
  obtain ⟨F2, H2, hst, hrun3⟩ := stage_runs (fun u hu => by
    obtain ⟨h1, h2, _, _⟩ := (hus u).1 hu
    rw [(hmask u h1).2.1]
    show isEff (cop N T u.o.op) = false
    rw [(hmask u h1).2.2]
    exact h2) (RunsTo.app.1 hrun2)
  -- what stood out stands out behind the effect
  have hFy : ∀ y, Out N T ops (x :: r') listed y → ∀ t, touches ops.toList y.o t = true → F1.get V.undef t = F.get V.undef t := by
    intro y hy t ht
    rw [hF1]
    cases hd : x.o.dst with
    | none => rfl
    | some t0 =>
      rw [put_get, if_neg]
      intro e
      subst e
      rcases ((tmps_spec htm hx).2 t0 hd).2 y hy.1 with h | h | h | h
      · have h2 := hy.2.1
        rw [all_ix hy.1 hx h, hxE] at h2
        cases h2
      · rw [ht] at h; cases h
      · exact hy.2.2.1 x (by simp) h
      · exact hy.2.2.2 (hcp h.2)
  have hPy : ∀ y, Out N T ops (x :: r') listed y → Pend N T ops.toList H0.next y.o F1 H1 ψ := by
    intro y hy
    refine (hc.pend y hy).keep (hFy y hy) (fun id cs e1 e2 e3 => ⟨?_, ?_, Nat.lt_of_lt_of_le e3 hext.next⟩) (fun xs g u e1 e2 e3 e4 => ?_)
    · rw [hext.keepA e3 e2 (by rw [e1]; simp)]; exact e1
    · cases h : ψ id with
      | none => rfl
      | some l => have := (hext.fresh e2 h).1; omega
    · have hrF : ∀ t, reads ops.toList y.o t = true → F1.get V.undef t = F.get V.undef t := fun t ht => hFy y hy t (by unfold touches; rw [ht]; simp)
      obtain ⟨t, ht, _⟩ := hc.pend y hy
      have hdt : F1.get V.undef t = F.get V.undef t := hFy y hy t (by unfold touches; rw [odEq_iff.2 ht]; rfl)
      have hm : y ∈ lfilter (fun i => and (!i.isE) (and (isRd i.s.cop) (and (Nat.ble (countE (done ++ x :: r') i.mask) done.length) (!(hasBit x.mask i.ix))))) (allInfos N T ops.toList) := by
        rw [lfilter_eq, List.mem_filter]
        refine ⟨hy.1, ?_⟩
        have hrd : isRd y.s.cop = true := by rw [(hmask y hy.1).2.1]; show isRd (cop N T y.o.op) = true; rw [e1]; rfl
        have hble : Nat.ble (countE (done ++ x :: r') y.mask) done.length = true := (ble_le _ _).2 ((hstg1 y hy.1).2 hy.2.2.1)
        have hnb : hasBit x.mask y.ix = false := by
          apply Bool.eq_false_iff.2
          intro h
          rw [hxs.2] at h
          exact hy.2.2.2 (hcp h)
        rw [hy.2.1, hrd, hble, hnb]
        rfl
      have hagy := hag y hm
      rw [(hmask y hy.1).2.1] at hagy
      unfold again at hagy
      have hwF : (stepOf N T ops.toList y.o).want F1 = some true := (want_congr hrF).trans e2
      rw [hwF] at hagy
      have hagy' : (match cop N T y.o.op with
        | .rd xs g => Option.casesOn (motive := fun _ => Bool) (g (vals xs F1) H1) false (fun v => Option.casesOn (motive := fun _ => Bool) y.o.dst true (fun t => veq 20 v (Tr.getP V.undef (path t) F1)))
        | _ => true) = true := hagy
      rw [e1] at hagy'
      cases hgv : g (vals xs F1) H1 with
      | none => simp only [hgv] at hagy'; cases hagy'
      | some u1 =>
        simp only [hgv, ht] at hagy'
        have hveq := veq_sound _ _ _ hagy'
        rw [looks_congr (rd_looks e1) hrF] at hgv
        rw [hgv, hveq]
        have e5 : Tr.getP V.undef (path t) F1 = F1.get V.undef t := rfl
        rw [e5, hdt]
        rw [ht] at e4
        rw [← e4]
        rfl
  have hB : H0.next ≤ H1.next := Nat.le_trans hc.ext.next hext.next
  obtain ⟨q1, q2, q3, q4, q5, q6, q7⟩ := stage_run (N := N) (T := T) (ol := ops.toList) (B := H0.next) (cf := noO) (φ := ψ) (w := w') (atStage (allInfos N T ops.toList) (done ++ x :: r') (done.length + 1)) F1 H1 F2 H2 (fun o => ∃ y, Out N T ops (x :: r') listed y ∧ o = y.o)
    (fun u hu => by
      obtain ⟨h1, h2, _, _⟩ := (hus u).1 hu
      refine ⟨(hmask u h1).2.1, by rw [(hmask u h1).2.2]; exact h2, ?_⟩
      cases hd : u.o.dst with
      | none => have := (tmps_spec htm h1).1 hd; rw [h2] at this; cases this
      | some t => exact ⟨t, rfl, ((tmps_spec htm h1).2 t hd).1.resolve_left (by rw [h2]; simp)⟩)
    (by
      rintro _ u ⟨y, hy, rfl⟩ hu t ht
      obtain ⟨h1, h2, _, h4⟩ := (hus u).1 hu
      rcases ((tmps_spec htm h1).2 t ht).2 y hy.1 with h | h | h | h
      · rw [all_ix hy.1 h1 h] at hy
        exact absurd hy.2.2.1 h4
      · exact h
      · exact absurd (fun e he hp => hy.2.2.1 e he (pred_trans hE h hp)) h4
      · rw [h2] at h; cases h.1)
    (by
      unfold atStage
      rw [lfilter_eq]
      refine (List.Pairwise.filter _ (all_sorted ops.toList)).imp_of_mem ?_
      intro u1 u2 hu1 hu2 hlt t ht
      have hu1' := (List.mem_filter.1 hu1)
      have hu2' := (List.mem_filter.1 hu2)
      have hE2 : u2.isE = false := by have := hu2'.2; rw [Bool.and_eq_true] at this; simpa using this.1
      rcases ((tmps_spec htm hu2'.1).2 t ht).2 u1 hu1'.1 with h | h | h | h
      · omega
      · exact h
      · have := pred_lt hE h; omega
      · rw [hE2] at h; cases h.1)
    hext.rel hB (by rintro _ ⟨y, hy, rfl⟩; exact hPy y hy)
    (by
      rintro _ _ ⟨y1, hy1, rfl⟩ ⟨y2, hy2, rfl⟩ id n1 n2
      exact hc.dist _ _ ⟨y1, hy1, rfl⟩ ⟨y2, hy2, rfl⟩ id (n1.congr (hFy y1 hy1)) (n2.congr (hFy y2 hy2))) hst
  have hout : ∀ y, Out N T ops r' (listed.setIfInBounds x.ix true) y → Out N T ops (x :: r') listed y ∨ y ∈ atStage (allInfos N T ops.toList) (done ++ x :: r') (done.length + 1) := by
    intro y hy
    rw [Out_set hi] at hy
    obtain ⟨⟨h1, h2, h3, h4⟩, _⟩ := hy
    by_cases h : Stg ops.toList y (x :: r')
    · exact .inl ⟨h1, h2, h, h4⟩
    · exact .inr ((hus y).2 ⟨h1, h2, h3, h⟩)
  have hin1 : ∀ y, Out N T ops (x :: r') listed y → Out N T ops r' (listed.setIfInBounds x.ix true) y := by
    rintro y ⟨h1, h2, h3, h4⟩
    refine (Out_set hi).2 ⟨⟨h1, h2, fun e he => h3 e (by simp [he]), h4⟩, fun e => ?_⟩
    rw [all_ix h1 hx e, hxE] at h2
    cases h2
  have hin2 : ∀ u ∈ atStage (allInfos N T ops.toList) (done ++ x :: r') (done.length + 1), Out N T ops r' (listed.setIfInBounds x.ix true) u := by
    intro u hu
    obtain ⟨h1, h2, h3, h4⟩ := (hus u).1 hu
    refine (Out_set hi).2 ⟨⟨h1, h2, h3, fun hl => h4 (hc.ne u h1 h2 hl)⟩, fun e => ?_⟩
    rw [all_ix h1 hx e, hxE] at h2
    cases h2
  refine hK _ w' ψ r' F2 H2 rfl ⟨by rw [hes]; exact hc.split, by simp [hc.size], conf_closed hc hxol hi hr, ?_, ?_, ext_grow (hc.ext.trans hext) q1 q5 q6, hc.glob.mono hext.le, ?_, ?_, ?_⟩ (by rw [hes, hlen]; exact hrun3) (put_size _ _ _) (put_defers _ _ _)
  · intro e he
    rw [hes] at he
    rw [Lp_set hi, List.mem_append, List.mem_singleton, hc.eff e he]
    have hem : e ∈ allInfos N T ops.toList := by rw [← hc.split] at he; exact (List.mem_filter.1 he).1
    constructor
    · rintro (h | h)
      · exact .inr (all_ix hem hx h)
      · exact .inl h
    · rintro (h | h)
      · exact .inr h
      · exact .inl (by rw [h])
  · intro y hy hye hl
    rw [Lp_set hi] at hl
    rcases hl with h | h
    · rw [all_ix hy hx h, hxE] at hye; cases hye
    · exact fun e he => hc.ne y hy hye h e (by simp [he])
  · intro t ht hno
    rw [put_size] at ht
    have e1 : F2.get V.undef t = F1.get V.undef t := q4 t (fun u hu => hno u (hin2 u hu))
    rw [e1, hF1]
    have hold : x.o.dst ≠ some t → Rv ψ (F.get V.undef t) (a.tmps.getD t undef) := fun _ => (hc.tmps t ht (fun y hy => hno y (hin1 y hy))).mono hext.le
    cases hd : x.o.dst with
    | none => exact hold (by rw [hd]; simp)
    | some t0 =>
      rw [put_get]
      by_cases h : t0 = t
      · subst h
        rw [if_pos rfl]
        simpa [Act.put, ht] using hvv
      · rw [if_neg h]
        have := hold (by rw [hd]; intro e; exact h (Option.some.inj e))
        simpa [Act.put, Array.getElem?_setIfInBounds_ne h] using this
  · intro y hy
    rcases hout y hy with h | h
    · exact q2 y.o ⟨y, h, rfl⟩
    · exact q3 y h
  · rintro _ _ ⟨y1, h1, rfl⟩ ⟨y2, h2, rfl⟩ id n1 n2
    refine q7 _ _ ?_ ?_ id n1 n2
    · rcases hout y1 h1 with h | h
      · exact .inl ⟨y1, h, rfl⟩
      · exact .inr ⟨y1, h, rfl⟩
    · rcases hout y2 h2 with h | h
      · exact .inl ⟨y2, h, rfl⟩
      · exact .inr ⟨y2, h, rfl⟩
end
end Go.Ev
/- The abstract evaluator, part Al: regions whole. -/
namespace Go.Ev
section
variable {P : Program} {N : Fns} {T : Ty} {G : Nat} {ops : Array Oper} {ro : Option Nat} {nn : Nat}
variable {φ0 : Phi} {H0 : Heap} {w0 : World} {done r : List Info} {F : Fr} {H : Heap} {listed : Array Bool} {a : Act} {w : World} {φ : Phi}

theorem all_listed (hE : edgesOk ops.toList 0 = true) (hs : listed.size = ops.size) (h : Region.ready .any ops listed = []) : ∀ i, i < ops.size → Lp listed i := by
  intro i
  induction i using Nat.strongRecOn with
  | _ i ih =>
    intro hi
    refine Classical.byContradiction fun hn => ?_
    have hmem : i ∈ Region.ready .any ops listed := by
      refine mem_ready.2 ⟨?_, ops[i], by simp [hi], fun e he hb => ?_⟩
      · unfold Lp at hn
        have : i < listed.size := by omega
        simp [this] at hn ⊢
        exact hn
      · have hlt := edge_lt hE (i := i) (o := ops[i]) (by simp [hi]) (e := e) (by simpa using he) (by rw [← binds_any]; exact hb)
        exact ih e.on hlt (by omega)
    rw [h] at hmem
    cases hmem

theorem conf_end (hE : edgesOk ops.toList 0 = true) (hch : (done ++ r).Pairwise (fun a b => Pred ops.toList b.ix a.ix)) (hc : Conf N T G ops φ0 H0 w0 done r F H listed a w φ) (h : Region.ready .any ops listed = []) : r = [] ∧ Rf φ F a.tmps := by
  have hall := all_listed hE hc.size h
  have hlt : ∀ x ∈ allInfos N T ops.toList, x.ix < ops.size := by
    intro x hx
    obtain ⟨i, o, hio, rfl⟩ := all_mem.1 hx
    have := (List.getElem?_eq_some_iff.1 hio).1
    show i < ops.size
    simpa using this
  refine ⟨?_, fun t ht => hc.tmps t ht (fun x hx => absurd (hall _ (hlt x hx.1)) hx.2.2.2)⟩
  cases r with
  | nil => rfl
  | cons e r =>
    have hem : e ∈ allInfos N T ops.toList := by
      have : e ∈ done ++ e :: r := by simp
      rw [← hc.split] at this
      exact (List.mem_filter.1 this).1
    have hed := (hc.eff e (by simp)).1 (hall _ (hlt e hem))
    have := (List.pairwise_append.1 hch).2.2 e hed e (by simp)
    have := pred_lt hE this
    omega

theorem count_set_lt {i : Nat} (hi : i < listed.size) (h : ¬ Lp listed i) {k : Nat} (hk : listed.toList.count false ≤ k + 1) : (listed.setIfInBounds i true).toList.count false ≤ k := by
  have hf : listed.toList[i]'(by simpa using hi) = false := by
    unfold Lp at h
    simp [hi] at h
    simpa using h
  have e : (listed.setIfInBounds i true).toList = listed.toList.set i true := by simp
  rw [e, List.count_set (by simpa using hi), hf]
  have e1 : (if (false == false) = true then 1 else 0) = 1 := rfl
  have e2 : (if (true == false) = true then 1 else 0) = 0 := rfl
  rw [e1, e2]
  omega

theorem any_ok {Q : Exit → Act → World → Prop} (hT : TOk P T) (hN : NOk P N) (hE : edgesOk ops.toList 0 = true) (htm : tmpsOk ops.toList (allInfos N T ops.toList) = true)
    (hch : ((allInfos N T ops.toList).filter (fun i => i.isE)).Pairwise (fun a b => Pred ops.toList b.ix a.ix)) {n : Nat} (hok : ∀ o ∈ ops.toList, operOk G n o = true) {Q0 : Fr → Heap → Prop} {d0 : List Deferred}
    (hQ : ∀ ψ a' w' F' H', Ext φ0 H0 w0 ψ H' w' → Rf ψ F' a'.tmps → a'.tmps.size = n → a'.defers = d0 → Q0 F' H' → Q .normal a' w') :
    ∀ (fuel : Nat) (listed : Array Bool) (a : Act) (w : World) (φ : Phi) (F : Fr) (H : Heap) (done r : List Info), Conf N T G ops φ0 H0 w0 done r F H listed a w φ → RunsTo P G (tailIns (allInfos N T ops.toList) (done ++ r) r done.length) F H Q0 →
      listed.toList.count false ≤ fuel → a.tmps.size = n → a.defers = d0 → wpAnyIn (fw ro) nn P .any ops Q fuel listed a w := by
  have hend : ∀ (listed : Array Bool) (a : Act) (w : World) (φ : Phi) (F : Fr) (H : Heap) (done r : List Info), Conf N T G ops φ0 H0 w0 done r F H listed a w φ → RunsTo P G (tailIns (allInfos N T ops.toList) (done ++ r) r done.length) F H Q0 →
      a.tmps.size = n → a.defers = d0 → Region.ready .any ops listed = [] → Q .normal a w := by
    intro listed a w φ F H done r hc hrun h1 h2 hre
    obtain ⟨rfl, hrf⟩ := conf_end hE (by rw [← hc.split]; exact hch) hc hre
    exact hQ φ a w F H hc.ext hrf h1 h2 hrun
  intro fuel
  induction fuel with
  | zero =>
    intro listed a w φ F H done r hc hrun hcnt h1 h2
    have hre : Region.ready .any ops listed = [] := by
      rw [List.eq_nil_iff_forall_not_mem]
      intro i hi
      obtain ⟨o, _, _, hnl, hlt, _⟩ := ready_spec hi
      have := count_set_lt hlt hnl (k := 0) (by omega)
      have hf : listed.toList[i]'(by simpa using hlt) = false := by
        unfold Lp at hnl
        simp [hlt] at hnl
        simpa using hnl
      have hmem : false ∈ listed.toList := by rw [← hf]; exact List.getElem_mem _
      have := List.count_pos_iff.2 hmem
      omega
    exact ⟨hre, hend listed a w φ F H done r hc hrun h1 h2 hre⟩
  | succ fuel ih =>
    intro listed a w φ F H done r hc hrun hcnt h1 h2
    refine ⟨hend listed a w φ F H done r hc hrun h1 h2, fun i hi => ?_⟩
    obtain ⟨o, ho, hol, hnl, hlt, hrd⟩ := ready_spec hi
    have hx : mkInfo N T ops.toList i o ∈ allInfos N T ops.toList := all_mem.2 ⟨i, o, hol, rfl⟩
    have hch' : (done ++ r).Pairwise (fun a b => Pred ops.toList b.ix a.ix) := by rw [← hc.split]; exact hch
    have hok' : ∀ o ∈ ops.toList, operOk G a.tmps.size o = true := by rw [h1]; exact hok
    have hcs := count_set_lt hlt hnl hcnt
    cases hEx : (mkInfo N T ops.toList i o).isE with
    | false =>
      have hout : Out N T ops r listed (mkInfo N T ops.toList i o) := by
        refine ⟨hx, hEx, fun e he hp => ?_, hnl⟩
        have hl : Lp listed e.ix := closed_pred hE hc.closed (fun o' ho' => by rw [show ops.toList[(mkInfo N T ops.toList i o).ix]? = some o from hol] at ho'; cases ho'; exact hrd) hp
        have hed := (hc.eff e (by simp [he])).1 hl
        have := (List.pairwise_append.1 hch').2.2 e hed e he
        have := pred_lt hE this
        omega
      refine ne_step (x := mkInfo N T ops.toList i o) hT hN hE htm hok' hc hout ho hlt hrd ?_
      intro a' w' ψ hc' e1 e2
      exact ih _ a' w' ψ F H done r hc' hrun hcs (e1.trans h1) (e2.trans h2)
    | true =>
      refine e_step (x := mkInfo N T ops.toList i o) hT hN hE htm hch' hok' hc hx hEx hnl ho hlt hrd hrun ?_
      intro a' w' ψ r' F2 H2 _ hc' hrun' e1 e2
      exact ih _ a' w' ψ F2 H2 (done ++ [mkInfo N T ops.toList i o]) r' hc' hrun' hcs (e1.trans h1) (e2.trans h2)

/-- a region, drawn or not -/
theorem region_ok {Q : Exit → Act → World → Prop} {id : Nat} {draw : Bool} (hT : TOk P T) (hN : NOk P N) (hmix : P.follows .mixedOrders = true) (hok : ∀ o ∈ ops.toList, operOk G a.tmps.size o = true)
    (hr : Rel φ H w) (hf : Rf φ F a.tmps) (hg : GlobOk G φ) {l : List Ins} (hpl : plan N T ops.toList draw = some l) {Q0 : Fr → Heap → Prop} (hrun : RunsTo P G l F H Q0)
    (hQ : ∀ ψ a' w' F' H', Ext φ H w ψ H' w' → Rf ψ F' a'.tmps → a'.tmps.size = a.tmps.size → a'.defers = a.defers → Q0 F' H' → Q .normal a' w') : (Code.region id ops draw).wpIn (fw ro) nn P Q a w := by
  cases draw with
  | false =>
    cases hpl
    refine wpIn_region ?_
    have := plain_ok (ro := ro) (nn := nn) (Q := Q) hT hN hok ops.toList 0 φ F H a w (fun j o hj => by simpa using hj) rfl hr hf hg hrun hQ
    rw [List.range_eq_range']
    simpa using this
  | true =>
    obtain ⟨h1, hpl⟩ := oif_some.1 (show oif (and (edgesOk ops.toList 0) (and (tmpsOk ops.toList (allInfos N T ops.toList)) (chainOk (lfilter (fun i => i.isE) (allInfos N T ops.toList)))))
      (some (stages (allInfos N T ops.toList) (lfilter (fun i => i.isE) (allInfos N T ops.toList)) (lfilter (fun i => i.isE) (allInfos N T ops.toList)) 0)) = some l from hpl)
    cases hpl
    rw [Bool.and_eq_true, Bool.and_eq_true, lfilter_eq] at h1
    rw [lfilter_eq] at hrun
    obtain ⟨hE, htm, hco⟩ := h1
    have hmask : ∀ y ∈ allInfos N T ops.toList, y.mask = maskAt ops.toList y.ix ∧ y.s = stepOf N T ops.toList y.o ∧ isEff (cop N T y.o.op) = y.isE := by
      intro y hy
      obtain ⟨i, o, _, rfl⟩ := all_mem.1 hy
      exact ⟨rfl, rfl, rfl⟩
    have hch := chain_spec hE (l := (allInfos N T ops.toList).filter (fun i => i.isE)) (fun x hx => (hmask x (List.mem_filter.1 hx).1).1) hco
    refine wpIn_region_any hmix ?_
    generalize hes : (allInfos N T ops.toList).filter (fun i => i.isE) = es at *
    rw [stages_eq, lapp_eq] at hrun
    have hstg : ∀ y ∈ allInfos N T ops.toList, (countE es y.mask ≤ 0 ↔ Stg ops.toList y es) := fun y hy => stg_iff (done := []) hE hch (hmask y hy).1
    have hus : ∀ u, u ∈ atStage (allInfos N T ops.toList) es 0 ↔ u ∈ allInfos N T ops.toList ∧ u.isE = false ∧ Stg ops.toList u es := by
      intro u
      unfold atStage
      rw [lfilter_eq, List.mem_filter]
      constructor
      · rintro ⟨h1, h2⟩
        rw [Bool.and_eq_true, beq_eq] at h2
        exact ⟨h1, by simpa using h2.1, (hstg u h1).1 (by omega)⟩
      · rintro ⟨h1, h2, h3⟩
        refine ⟨h1, ?_⟩
        rw [Bool.and_eq_true, beq_eq]
        have e1 := (hstg u h1).2 h3
        exact ⟨by simp [h2], by omega⟩
    obtain ⟨F1, H1, hst, hrun1⟩ := stage_runs (fun u hu => by
      obtain ⟨h1, h2, _⟩ := (hus u).1 hu
      rw [(hmask u h1).2.1]
      show isEff (cop N T u.o.op) = false
      rw [(hmask u h1).2.2]
      exact h2) (RunsTo.app.1 hrun)
    have hr' : Rel φ H { w with drawn := w.drawn + 1 } := hr.drew 1
    obtain ⟨q1, q2, q3, q4, q5, q6, q7⟩ := stage_run (N := N) (T := T) (ol := ops.toList) (B := H.next) (cf := noO) (φ := φ) (w := { w with drawn := w.drawn + 1 }) (atStage (allInfos N T ops.toList) es 0) F H F1 H1 (fun _ => False)
      (fun u hu => by
        obtain ⟨h1, h2, _⟩ := (hus u).1 hu
        refine ⟨(hmask u h1).2.1, by rw [(hmask u h1).2.2]; exact h2, ?_⟩
        cases hd : u.o.dst with
        | none => have := (tmps_spec htm h1).1 hd; rw [h2] at this; cases this
        | some t => exact ⟨t, rfl, ((tmps_spec htm h1).2 t hd).1.resolve_left (by rw [h2]; simp)⟩)
      (fun _ _ h => h.elim)
      (by
        unfold atStage
        rw [lfilter_eq]
        refine (List.Pairwise.filter _ (all_sorted ops.toList)).imp_of_mem ?_
        intro u1 u2 hu1 hu2 hlt t ht
        have hu1' := (List.mem_filter.1 hu1)
        have hu2' := (List.mem_filter.1 hu2)
        have hE2 : u2.isE = false := by have := hu2'.2; rw [Bool.and_eq_true] at this; simpa using this.1
        rcases ((tmps_spec htm hu2'.1).2 t ht).2 u1 hu1'.1 with h | h | h | h
        · omega
        · exact h
        · have := pred_lt hE h; omega
        · rw [hE2] at h; cases h.1)
      hr' (Nat.le_refl _) (fun _ h => h.elim) (fun _ _ h => h.elim) hst
    have hnl : ∀ i, ¬ Lp (Array.replicate ops.size false) i := by
      intro i h
      unfold Lp at h
      by_cases hi : i < ops.size
      · simp [hi] at h
      · simp [Array.getElem?_eq_none (show (Array.replicate ops.size false).size ≤ i by simpa using hi)] at h
    have hext0 : Ext φ H w φ H { w with drawn := w.drawn + 1 } := ⟨hr', Phi.le_refl φ, fun h1 h2 => absurd (h1.symm.trans h2) (by simp), fun _ _ _ => rfl, Nat.le_refl _, fun _ _ => rfl, Nat.le_refl _, ⟨rfl, rfl, rfl, fun h => h, fun _ cs _ _ h => ⟨cs, h, rfl⟩⟩, fun _ h => ⟨h, rfl⟩⟩
    have hout : ∀ y, Out N T ops es (Array.replicate ops.size false) y ↔ y ∈ atStage (allInfos N T ops.toList) es 0 := by
      intro y
      rw [hus]
      exact ⟨fun ⟨h1, h2, h3, _⟩ => ⟨h1, h2, h3⟩, fun ⟨h1, h2, h3⟩ => ⟨h1, h2, h3, hnl _⟩⟩
    have hc : Conf N T G ops φ H w [] es F1 H1 (Array.replicate ops.size false) a { w with drawn := w.drawn + 1 } φ := by
      refine ⟨hes, by simp, fun i o h => absurd h (hnl i), fun e _ => ⟨fun h => absurd h (hnl _), fun h => by cases h⟩, fun x _ _ h => absurd h (hnl _), ext_grow hext0 q1 q5 q6, hg, ?_, fun y hy => q3 y ((hout y).1 hy), ?_⟩
      · intro t ht hno
        rw [q4 t (fun u hu => hno u ((hout u).2 hu))]
        exact hf t ht
      · rintro _ _ ⟨y1, h1, rfl⟩ ⟨y2, h2, rfl⟩ id n1 n2
        exact q7 _ _ (.inr ⟨y1, (hout y1).1 h1, rfl⟩) (.inr ⟨y2, (hout y2).1 h2, rfl⟩) id n1 n2
    exact any_ok (φ0 := φ) (H0 := H) (w0 := w) hT hN hE htm (by rw [hes]; exact hch) hok hQ ops.size _ a _ φ F1 H1 [] es hc hrun1 (by simp) rfl rfl
end
end Go.Ev
