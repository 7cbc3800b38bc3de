/- The abstract evaluator of the model: texts X Y Ya Z Aa. -/
import Derived.Test.YtofkmenlcnjolaaGreatDoorE3
/- The abstract evaluator, part X: append and copy whole. -/
namespace Go.Ev
section
variable {P : Program} {φ : Phi} {H H' : Heap} {w w' : World}

theorem Rel.drew (h : Rel φ H w) (k : Nat) : Rel φ H { w with drawn := w.drawn + k } := ⟨h.cell, h.room, h.len, h.inj, h.top, h.loc, h.mem, h.flo, fun e1 e2 => let ⟨f1, f2⟩ := h.oth e1 e2; ⟨f1, f2.mono (Phi.le_refl φ) rfl⟩⟩

/-- the first cells of a slice or a string -/
theorem first_ok (hr : Rel φ H w) {size n : Nat} {x : V} {x' : Value} (hx : Rv φ x x') {new : List V} (h : firstG H size n x = some new) :
    ∃ new', Rvs φ new new' ∧ ∀ k, (Builtin.firstCells size n x').run P { w with drawn := w.drawn + k } = .ok ⟨new'⟩ { w with drawn := w.drawn + k } := by
  cases hx <;> first | (cases h; done) | skip
  · rename_i s
    obtain ⟨_, h⟩ := oif_some.1 (show oif (Nat.beq size 1) _ = some new from h)
    obtain ⟨t, ht, h⟩ := obind_some.1 (show obind (ltake? s n) _ = some new from h)
    cases h
    rw [ltake?_eq] at ht
    split at ht
    · cases ht
      refine ⟨_, bytes_rel _, fun k => ?_⟩
      simp only [Builtin.firstCells, Sem.run_pure]
      congr 1
      apply Array.ext'
      simp [ByteArray.data_extract]
    · cases ht
  · rename_i b o len cap cap' l hb h1 h2
    obtain ⟨vs', e1, e2, e3⟩ := loadN_ok hr hb (show H.loadN b o (n * size) = some new from h)
    refine ⟨vs', e2, fun k => ?_⟩
    exact run_loadCells_none e1 e3
  · obtain ⟨_, h⟩ := oif_some.1 (show oif (isz n) (some []) = some new from h)
    cases h
    exact ⟨[], .nil, fun k => rfl⟩
  · rename_i a cap'
    obtain ⟨hz, h⟩ := oif_some.1 (show oif (isz n) (some []) = some new from h)
    cases h
    have hz' : n = 0 := (beq_eq _ _).1 hz
    subst hz'
    refine ⟨[], .nil, fun k => ?_⟩
    simp [Builtin.firstCells, loadCells, loadCellsFrom]
theorem len_ok {x : V} {x' : Value} (hx : Rv φ x x') {n : Nat} (h : lenOfV x = some n) : (Builtin.lenOf x').run P w = .ok n w := by
  cases hx <;> first | (cases h; done) | skip
  · rename_i s
    cases h
    show Result.ok _ w = _
    rw [llen_eq]
    rfl
  · cases h; rfl
  · cases h; rfl
  · cases h; rfl

theorem fitsN_ok {n b : Nat} (h : fitsN n b = true) : n ≤ 1099511627776 ∧ n * b ≤ 1099511627776 := by
  unfold fitsN at h
  rw [Bool.and_eq_true, ble_le, ble_le] at h
  exact h

/-- a new row of unknown capacity: the world -/
theorem ext_row (hr : Rel φ H w) {g : Nat} {cs : List V} (ha : HApp H H' g cs) {cs' rest : List Value} (hc : Rvs φ cs cs') {e : TypeId} :
    Ext φ H w (φ.add H.next ⟨w.heap.size, 0, cs'.length + rest.length⟩) H' (w.drew.alloc (.cells ⟨cs' ++ rest⟩ e)) := by
  have hcell : ∀ {c i : Nat}, c < w.heap.size → (w.drew.alloc (.cells ⟨cs' ++ rest⟩ e)).cell? ⟨c, i, none⟩ = w.cell? ⟨c, i, none⟩ := by
    intro c i h
    exact World.cell?_alloc_past (w := w.drew) _ c i h
  have hat : ∀ i, (w.drew.alloc (.cells ⟨cs' ++ rest⟩ e)).cell? ⟨w.heap.size, 0 + i, none⟩ = (cs' ++ rest)[i]? := by
    intro i
    have := World.cell?_alloc_at (w := w.drew) (⟨cs' ++ rest⟩ : Array Value) e w.heap.size (0 + i) rfl
    rw [this]
    simp
  have hold : ∀ {c : Nat}, c < w.heap.size → (w.drew.alloc (.cells ⟨cs' ++ rest⟩ e)).heap[c]? = w.heap[c]? := by
    intro c h
    show (w.heap.push _)[c]? = _
    simp [Array.getElem?_push, Nat.ne_of_lt h]
  have hfz : ∀ {c i : Nat}, c < w.heap.size → (w.drew.alloc (.cells ⟨cs' ++ rest⟩ e)).frozen? ⟨c, i, none⟩ = w.frozen? ⟨c, i, none⟩ := by
    intro c i h
    unfold World.frozen?
    rw [hold h]
  refine ext_app hr ha ?_ ?_ ?_ ?_ ?_ ?_ ?_ ?_ ?_ ?_ (.inl (Nat.le_refl _)) (fun e1 _ => hold (hr.loc e1)) (fun e1 _ => hold (hr.loc e1))
  · intro x l1 c1 g1 i e1 _ _
    exact hcell (hr.loc e1)
  · intro x l1 i e1 e2
    obtain ⟨h1, h2⟩ := hr.room e1 e2
    rw [hcell (hr.loc e1), hfz (hr.loc e1)]
    exact ⟨h1, h2⟩
  · intro i v hv
    obtain ⟨v', h1, h2⟩ := hc.get i v hv
    refine ⟨v', ?_, h2⟩
    rw [hat, List.getElem?_append_left (List.getElem?_eq_some_iff.1 h1).1]
    exact h1
  · intro i hi
    have hi' : i < (cs' ++ rest).length := by simpa using hi
    refine ⟨⟨(cs' ++ rest)[i], by rw [hat]; simp⟩, ?_⟩
    show (match (w.heap.push (.cells ⟨cs' ++ rest⟩ e (0, 0)))[w.heap.size]? with | some (.cells _ _ (lo, hi)) => decide (lo ≤ 0 + i) && decide (0 + i < hi) | _ => false) = false
    simp
  · have := hc.length
    show cs.length ≤ cs'.length + rest.length
    omega
  · intro x l1 e1 e2
    have := hr.loc e1
    simp at e2
    omega
  · show w.heap.size < (w.heap.push _).size
    simp
  · show w.heap.size ≤ (w.heap.push _).size
    simp
  · intro c h _
    exact hold h
  · exact ⟨rfl, rfl, rfl, fun h => (Same.alloc w.drew _).free h, fun c cs t fr h => (Same.alloc w.drew _).shape c cs t fr h⟩

/-- an append in place, behind a row of unknown capacity: the world -/
theorem ext_place (hr : Rel φ H w) {g : Nat} {old new : List V} (ha : HApp H H' g (old ++ new)) {b o m : Nat} {l : Loc} (hb : φ b = some l) {c0 : List V} (hg : H.get b = .cells c0 g) {old' new' : List Value}
    (ho : Rvs φ old old') (hol : old'.length = m) (hoc : ∀ j v, old'[j]? = some v → w.cell? ⟨l.c, l.base + o + j, none⟩ = some v) (hn : Rvs φ new new') (h1 : allOne new = true) (hlim : o + m + new.length ≤ l.lim) :
    (storeCells ⟨l.c, l.base + o + m, none⟩ new').run P w = .ok () (w.setCells l.c (l.base + o + m) new') ∧
    Ext φ H w (φ.add H.next ⟨l.c, l.base + o, l.lim - o⟩) H' (w.setCells l.c (l.base + o + m) new') := by
  have hnl := hn.length
  have hthere : ∀ j, j < new'.length → (w.cell? ⟨l.c, l.base + o + m + j, none⟩).isSome = true := fun j hj => by
    obtain ⟨⟨u, hu⟩, _⟩ := hr.room hb (i := o + m + j) (by omega)
    have : l.base + (o + m + j) = l.base + o + m + j := by omega
    rw [this] at hu
    rw [hu]; rfl
  have hfree : ∀ j, j < new'.length → w.frozen? ⟨l.c, l.base + o + m + j, none⟩ = false := fun j hj => by
    obtain ⟨_, hu⟩ := hr.room hb (i := o + m + j) (by omega)
    have : l.base + (o + m + j) = l.base + o + m + j := by omega
    rw [this] at hu
    exact hu
  have hrun := run_storeCells_cells (P := P) l.c (l.base + o + m) new' 0 w (by simpa using hthere) (by simpa using hfree) (allOne_ok hn h1)
  rw [Nat.add_zero] at hrun
  have hin := World.cell?_setCells_in l.c new' (l.base + o + m) w hthere
  have hroom : ∀ {x : Nat} {l1 : Loc} {i : Nat}, φ x = some l1 → i < l1.lim → (∃ v', (w.setCells l.c (l.base + o + m) new').cell? ⟨l1.c, l1.base + i, none⟩ = some v') ∧ (w.setCells l.c (l.base + o + m) new').frozen? ⟨l1.c, l1.base + i, none⟩ = false := by
    intro x l1 i e1 e2
    obtain ⟨⟨u, hu⟩, hf⟩ := hr.room e1 e2
    refine ⟨?_, by rw [World.frozen?_setCells]; exact hf⟩
    by_cases hc : l1.c = l.c ∧ l.base + o + m ≤ l1.base + i ∧ l1.base + i < l.base + o + m + new'.length
    · have hj : l1.base + i - (l.base + o + m) < new'.length := by omega
      have := hin _ hj
      have e7 : l.base + o + m + (l1.base + i - (l.base + o + m)) = l1.base + i := by omega
      rw [e7] at this
      rw [hc.1]
      exact ⟨_, this⟩
    · refine ⟨u, ?_⟩
      rw [World.cell?_setCells_out _ _ _ _ _ (fun e _ => by simp at e ⊢; omega)]
      exact hu
  have hinj : ∀ {x : Nat} {l1 : Loc}, φ x = some l1 → l1.c = l.c → ∃ c1, H.get x = .cells c1 g := by
    intro x l1 e1 e2
    by_cases hx : x = b
    · subst hx; exact ⟨c0, hg⟩
    · obtain ⟨a1, a2, gg, h3, h4, h5⟩ := hr.inj e1 hb e2 hx
      rw [hg] at h5
      cases h5
      exact ⟨a1, h4⟩
  have holdl := ho.length
  refine ⟨hrun, ext_app hr ha ?_ hroom ?_ ?_ ?_ hinj ?_ ?_ ?_ (same_setCells _ _ _ _) (.inr ⟨b, l, hb, rfl⟩) (fun e1 e2 => far_setCells _ _ (fun hc => by obtain ⟨c1, h⟩ := hinj e1 hc.symm; rw [e2] at h; cases h) _ _ _) (fun e1 e2 => far_setCells _ _ (fun hc => by obtain ⟨c1, h⟩ := hinj e1 hc.symm; rw [e2] at h; cases h) _ _ _)⟩
  · intro x l1 c1 g1 i e1 e2 e3
    rw [World.cell?_setCells_out _ _ _ _ _ (fun e _ => ?_)]
    obtain ⟨c2, h2⟩ := hinj e1 e
    rw [e2] at h2
    cases h2
    exact absurd rfl e3
  · intro i v hv
    by_cases hi : i < old.length
    · rw [List.getElem?_append_left hi] at hv
      obtain ⟨v', h2, h3⟩ := ho.get i v hv
      refine ⟨v', ?_, h3⟩
      rw [World.cell?_setCells_out _ _ _ _ _ (fun _ _ => by simp; omega)]
      exact hoc i v' h2
    · rw [List.getElem?_append_right (by omega)] at hv
      obtain ⟨v', h2, h3⟩ := hn.get _ v hv
      refine ⟨v', ?_, h3⟩
      have hj := (List.getElem?_eq_some_iff.1 h2).1
      have := hin _ hj
      have e7 : l.base + o + m + (i - old.length) = l.base + o + i := by omega
      rw [e7] at this
      show (w.setCells l.c (l.base + o + m) new').cell? ⟨l.c, l.base + o + i, none⟩ = some v'
      rw [this, ← h2]
      simp [hj]
  · intro i hi
    have hi' : i < l.lim - o := hi
    have := hroom hb (i := o + i) (by omega)
    rw [← Nat.add_assoc] at this
    exact this
  · show (old ++ new).length ≤ l.lim - o
    simp
    omega
  · show l.c < _
    rw [size_setCells]
    exact hr.loc hb
  · rw [size_setCells]; exact Nat.le_refl _
  · intro c hc hno
    exact far_setCells l.c c (hno b l hb) _ _ w
end
end Go.Ev
/- The abstract evaluator, part Y: the operations that write. -/
namespace Go.Ev
def EffOk (P : Program) (φ : Phi) (H : Heap) (w : World) (ρ : Operand → Value) (o : Oper) (v : V) (H' : Heap) : Prop :=
  ∃ nx v' w' ψ, (execOp ρ o).run P w = .ok nx w' ∧ (nx = .value v' ∨ (nx = .skip ∧ v' = undef)) ∧ Ext φ H w ψ H' w' ∧ Rv ψ v v'
section
variable {P : Program} {φ : Phi} {H H' : Heap} {w w' : World} {ρ : Operand → Value} {T : Ty} {N : Fns} {F : Fr} {dst : Option Tmp} {ty : TypeId} {pos : String} {after : Array Edge} {guard : Option (Nat × Bool)}

theorem store_sound (hT : TOk P T) (hr : Rel φ H w) {t : TypeId} {n : Nat} (hn : sizeT T t = some n) {x y : Operand} {a v : V} (ha : Rv φ a (ρ x)) (hv : Rv φ v (ρ y)) {r : V × Heap} (h : storeG n [a, v] H = some r) :
    EffOk P φ H w ρ ⟨dst, .store t x y, ty, pos, after, guard⟩ r.1 r.2 := by
  generalize hx : ρ x = x' at ha
  generalize hy : ρ y = y' at hv
  cases ha <;> first | (cases h; done) | skip
  rename_i b o l hb
  obtain ⟨h1, h⟩ := oif_some.1 (show oif (and (kn v) (Nat.beq (llen (cellsOf v)) n)) (obind (H.storeN b o (cellsOf v)) fun H => some (V.undef, H)) = some r from h)
  obtain ⟨H2, h2, h⟩ := obind_some.1 h
  cases h
  rw [Bool.and_eq_true, beq_eq, llen_eq] at h1
  obtain ⟨hkn, h1⟩ := h1
  have hc := cellsOf_rel hv hkn
  obtain ⟨e1, e2⟩ := store_ext (P := P) hr hb hc h2
  have hlen := hc.length
  refine ⟨.skip, undef, _, φ, ?_, .inr ⟨rfl, rfl⟩, e2, .tup .nil⟩
  have hsz : y'.cells.size = n := by simp at hlen; omega
  simp only [execOp, Instr.storeAt, hx, hy, Instr.sureAddr, storeVar]
  simp [run_sizeT hT hn, hsz, e1]

theorem assign_sound (hr : Rel φ H w) {x : Operand} {v : V} (hv : Rv φ v (ρ x)) : EffOk P φ H w ρ ⟨dst, .assign x, ty, pos, after, guard⟩ v H :=
  ⟨.value (ρ x), ρ x, w, φ, by simp [execOp], .inl rfl, Ext.refl hr, hv⟩

theorem first_zero {size : Nat} {x : V} {new : List V} (h : firstG H size 0 x = some new) : new = [] := by
  cases x <;> first | (cases h; done) | skip
  · rename_i s
    obtain ⟨_, h⟩ := oif_some.1 (show oif (Nat.beq size 1) _ = some new from h)
    obtain ⟨t, ht, h⟩ := obind_some.1 (show obind (ltake? s 0) _ = some new from h)
    cases h
    rw [ltake?_eq] at ht
    simp at ht
    subst ht
    rfl
  · rename_i b o len cap
    obtain ⟨cs, hc, h⟩ := obind_some.1 (show obind (H.cells? b) (fun cs => ltake? (ldrop cs o) (Nat.mul 0 size)) = some new from h)
    have e : Nat.mul 0 size = 0 := Nat.zero_mul size
    rw [e, ltake?_eq] at h
    simp at h
    exact h
  · obtain ⟨_, h⟩ := oif_some.1 (show oif (isz 0) (some []) = some new from h)
    cases h; rfl
  · obtain ⟨_, h⟩ := oif_some.1 (show oif (isz 0) (some []) = some new from h)
    cases h; rfl
theorem first_len {size n : Nat} {x : V} {new : List V} (h : firstG H size n x = some new) : new.length = n * size := by
  cases x <;> first | (cases h; done) | skip
  · rename_i s
    obtain ⟨h1, h⟩ := oif_some.1 (show oif (Nat.beq size 1) _ = some new from h)
    obtain ⟨t, ht, h⟩ := obind_some.1 (show obind (ltake? s n) _ = some new from h)
    cases h
    rw [beq_eq] at h1
    subst h1
    rw [ltake?_eq] at ht
    split at ht
    · cases ht
      rw [lmap_eq]
      simp
      omega
    · cases ht
  · rename_i b o len cap
    obtain ⟨cs, hc, h⟩ := obind_some.1 (show obind (H.cells? b) (fun cs => ltake? (ldrop cs o) (Nat.mul n size)) = some new from h)
    rw [ltake?_eq] at h
    split at h
    · rename_i hle
      cases h
      rw [List.length_take]
      exact Nat.min_eq_left hle
    · cases h
  · obtain ⟨h1, h⟩ := oif_some.1 (show oif (isz n) (some []) = some new from h)
    cases h
    have : n = 0 := (beq_eq _ _).1 h1
    subst this
    simp
  · obtain ⟨h1, h⟩ := oif_some.1 (show oif (isz n) (some []) = some new from h)
    cases h
    have : n = 0 := (beq_eq _ _).1 h1
    subst this
    simp
theorem append_nil0 {st e : TypeId} (hu : P.underlying st = some (.slice e)) {i : TypeInfo} (hi : P.info? e = some i) {xt ty : TypeId} {xd : TypeDesc} (hx : P.underlying xt = some xd) (hnx : ∀ k, xd ≠ .int k)
    {ts : Array TypeId} (h0 : ts[0]? = some st) (h1 : ts[1]? = some xt) {x : Value} {new : List Value} (hf : Fits P w i.size 0 x new) :
    (Builtin.append_ ts ty #[.slice none 0 0, x]).run P w = .ok (.slice none 0 0) w := by
  obtain ⟨hf1, hf2⟩ := hf
  have hf2' := hf2 0
  simp only [Nat.add_zero] at hf2'
  unfold Builtin.append_
  have g0 : (#[Value.slice none 0 0, x] : Array Value)[0]? = some (.slice none 0 0) := rfl
  have g1 : (#[Value.slice none 0 0, x] : Array Value)[1]? = some x := rfl
  have hsz : (sizeOf e).run P w = .ok i.size w := by simp [sizeOf, run_info hi]
  simp only [h0, h1, g0, g1, Sem.run_bind, run_underlying hu, Result.andThen_ok, hsz, run_underlying hx, Sem.run_pure, Bool.false_eq_true, if_false, hf1, Nat.add_zero, Nat.le_refl, Bool.not_false, if_true, hf2']

theorem append_sound (hT : TOk P T) (hr : Rel φ H w) {st e xt : TypeId} {xd : TypeDesc} {i : TypeInfo} {zs : List V} (hu : T.und st = some (.slice e)) (hi : T.info e = some i) (hz : zeroCells T e = some zs) (hzl : zs.length = i.size)
    (hx : P.underlying xt = some xd) (hnx : ∀ k, xd ≠ .int k) {ts : Array TypeId} (h0 : ts[0]? = some st) (h1 : ts[1]? = some xt) {sx x : Operand} {s y : V} (hs : Rv φ s (ρ sx)) (hy : Rv φ y (ρ x)) {r : V × Heap} (h : appendE i.size i.bytes [s, y] H = some r) :
    EffOk P φ H w ρ ⟨dst, .call ⟨.builtin .append, #[sx, x], ts⟩, ty, pos, after, guard⟩ r.1 r.2 := by
  obtain ⟨n, hn, hA1⟩ := obind_some.1 (show obind (lenOfV y) _ = some r from h)
  obtain ⟨new, hnew, hA2⟩ := obind_some.1 hA1
  clear h hA1
  have h := hA2
  clear hA2
  obtain ⟨new', hnr, hnf⟩ := first_ok (P := P) hr hy hnew
  have hlenx := len_ok (P := P) (w := w) hy hn
  have hfit : Fits P w i.size n (ρ x) new' := ⟨hlenx, hnf⟩
  obtain ⟨i', z, hi', hz', hzr⟩ := zeroCells_some hT hz
  have hii : i' = i := by have := hT.info e i hi; rw [hi'] at this; exact Option.some.inj this
  subst hii
  have hzs : z.cells.size = i'.size := by have := (hzr φ).length; simp at this; omega
  have hrun : ∀ {sv yv : Value} {v' : Value} {w' : World}, ρ sx = sv → ρ x = yv → (Builtin.append_ ts ty #[sv, yv]).run P w = .ok v' w' →
      (execOp ρ ⟨dst, .call ⟨.builtin .append, #[sx, x], ts⟩, ty, pos, after, guard⟩).run P w = .ok (.value v') w' := by
    intro sv yv v' w' e1 e2 e3
    simp only [execOp, resolve, invoke, builtin]
    simp [e1, e2, e3]
  have hub := hT.und hu
  generalize hsv : ρ sx = sv at hs
  unfold appendG at h
  by_cases hn0 : n = 0
  · subst hn0
    have hz0 : isz 0 = true := rfl
    rw [hz0] at h
    have hnil : new = [] := first_zero hnew
    subst hnil
    cases hnr
    cases hs <;> first | (cases h; done) | skip
    · rename_i l hb hl1 hl2
      cases h
      exact ⟨_, _, _, φ, hrun hsv rfl (append_in hub hi' hx hnx h0 h1 hfit (by omega) rfl), .inl rfl, Ext.refl hr, .slice hb hl1 hl2⟩
    · cases h
      exact ⟨_, _, _, φ, hrun hsv rfl (append_nil0 hub hi' hx hnx h0 h1 hfit), .inl rfl, Ext.refl hr, .nils⟩
    · cases h
      exact ⟨_, _, _, φ, hrun hsv rfl (append_in hub hi' hx hnx h0 h1 hfit (by omega) rfl), .inl rfl, Ext.refl hr, .emp _ _⟩
  · have hz0 : isz n = false := Bool.eq_false_iff.2 (fun e => hn0 ((beq_eq _ _).1 e))
    rw [hz0] at h
    have hnl : new'.length = n * i'.size := by rw [← hnr.length]; exact first_len hnew
    cases hs <;> first | (cases h; done) | skip
    · rename_i b o len cap cap' l hb hl1 hl2
      obtain ⟨hfi, h⟩ := oif_some.1 h
      obtain ⟨hf1, hf2⟩ := fitsN_ok hfi
      have hgrow : ∀ {old : List V}, H.loadN b o (len * i'.size) = some old → cap' < len + n → ∀ {g : Nat} {H2 : Heap}, HApp H H2 g (old ++ new) →
          EffOk P φ H w ρ ⟨dst, .call ⟨.builtin .append, #[sx, x], ts⟩, ty, pos, after, guard⟩ (.slice H.next 0 (len + n) (.grown i'.size)) H2 := by
        intro old hold hgt g H2 hA
        obtain ⟨old', e1, e2, e3⟩ := loadN_ok hr hb hold
        obtain ⟨c, hc, rest, hrl, hrun2⟩ := append_grow (P := P) (w := w) (ty := ty) hub hi' hz' hzs hx hnx h0 h1 (a := some ⟨l.c, l.base + o, none⟩) (len := len) (cap := cap') (old := old') hfit hgt
          (fun k => run_loadCells_none (w := { w with drawn := w.drawn + k }) e1 e3) hf1 hf2
        have hext := ext_row (w := w) hr hA (rest := rest) (e2.append hnr) (e := e)
        refine ⟨_, _, _, _, hrun hsv rfl hrun2, .inl rfl, hext, .slice (Phi.add_self _ _ _) hc ?_⟩
        show 0 + c * i'.size ≤ _
        have e5 : (old' ++ new').length = (len + n) * i'.size := by
          rw [List.length_append, e1, hnl, Nat.add_mul]
        rw [e5, hrl, ← Nat.add_mul, Nat.zero_add]
        exact Nat.mul_le_mul_right _ (by omega)
      cases cap with
      | known k =>
        have hk : cap' = k := hl2
        subst hk
        by_cases hle : len + n ≤ cap'
        · have e : Nat.ble (Nat.add len n) cap' = true := (ble_le _ _).2 hle
          simp only [e] at h
          obtain ⟨H2, hst, h⟩ := obind_some.1 h
          cases h
          obtain ⟨e1, e2⟩ := store_ext (P := P) hr hb hnr hst
          have e3 : l.base + (Nat.add o (Nat.mul len i'.size)) = l.base + o + len * i'.size := by
            show l.base + (o + len * i'.size) = _
            omega
          rw [e3] at e1 e2
          exact ⟨_, _, _, φ, hrun hsv rfl (append_in hub hi' hx hnx h0 h1 hfit hle (by rw [add_none]; exact e1)), .inl rfl, e2, .slice hb hle rfl⟩
        · have e : Nat.ble (Nat.add len n) cap' = false := Bool.eq_false_iff.2 (fun h => hle ((ble_le _ _).1 h))
          simp only [e] at h
          obtain ⟨old, hold, h⟩ := obind_some.1 h
          obtain ⟨h3, h4⟩ := happ_grow h
          rw [h3]
          rw [lapp_eq] at h4
          exact hgrow hold (by omega) h4
      | grown sz =>
        obtain ⟨hsz, hB⟩ := oif_some.1 h
        clear h
        rw [Bool.and_eq_true, beq_eq] at hsz
        obtain ⟨hsz, hone⟩ := hsz
        subst hsz
        obtain ⟨old, hold, hC⟩ := obind_some.1 hB
        obtain ⟨h3, c0, g, hg, h4⟩ := happ_in hr hC
        rw [h3]
        rw [lapp_eq] at h4
        by_cases hle : len + n ≤ cap'
        · obtain ⟨old', e1, e2, e3⟩ := loadN_ok hr hb hold
          have hlim : o + len * i'.size + new.length ≤ l.lim := by
            have h5 : o + cap' * i'.size ≤ l.lim := hl2
            have h6 := hnr.length
            have h7 : (len + n) * i'.size ≤ cap' * i'.size := Nat.mul_le_mul_right _ hle
            rw [Nat.add_mul] at h7
            omega
          obtain ⟨e4, e5⟩ := ext_place (P := P) hr h4 hb hg e2 e1 e3 hnr hone hlim
          refine ⟨_, _, _, _, hrun hsv rfl (append_in hub hi' hx hnx h0 h1 hfit hle (by rw [add_none]; exact e4)), .inl rfl, e5, ?_⟩
          have := Rv.slice (φ := φ.add H.next ⟨l.c, l.base + o, l.lim - o⟩) (b := H.next) (o := 0) (len := len + n) (cap := .grown i'.size) (cap' := cap') (Phi.add_self _ _ _) hle (by
            show 0 + cap' * i'.size ≤ l.lim - o
            have h5 : o + cap' * i'.size ≤ l.lim := hl2
            omega)
          exact this
        · exact hgrow hold (by omega) h4
      | opaq => cases h
    · obtain ⟨hfi, h⟩ := oif_some.1 h
      obtain ⟨hf1, hf2⟩ := fitsN_ok hfi
      obtain ⟨h3, h4⟩ := happ_grow h
      rw [h3]
      obtain ⟨c, hc, rest, hrl, hrun2⟩ := append_grow (P := P) (w := w) (ty := ty) hub hi' hz' hzs hx hnx h0 h1 (a := none) (len := 0) (cap := 0) (old := []) hfit (by omega) (fun k => rfl) (by omega) (by rw [Nat.zero_add]; exact hf2)
      simp only [Nat.zero_add] at hrun2 hc hrl
      have hext := ext_row (w := w) hr h4 (rest := rest) hnr (e := e)
      refine ⟨_, _, _, _, hrun hsv rfl hrun2, .inl rfl, hext, .slice (Phi.add_self _ _ _) hc ?_⟩
      show 0 + c * i'.size ≤ _
      rw [hnl, hrl, ← Nat.add_mul, Nat.zero_add]
      exact Nat.mul_le_mul_right _ (by omega)
end
end Go.Ev
/- The abstract evaluator, part Ya: maps and iterators written. -/
namespace Go.Ev
section
variable {P : Program} {φ : Phi} {H H' : Heap} {w w' : World} {ρ : Operand → Value} {T : Ty} {N : Fns} {F : Fr} {dst : Option Tmp} {ty : TypeId} {pos : String} {after : Array Edge} {guard : Option (Nat × Bool)}

/-- a world with another object at a place -/
def putO (w : World) (c : Nat) (o : Obj) : World := { w with heap := w.heap.setIfInBounds c o }
theorem putO_far {c c' : Nat} (h : c ≠ c') (o : Obj) : (putO w c o).heap[c']? = w.heap[c']? := by
  show (w.heap.setIfInBounds c o)[c']? = _
  rw [Array.getElem?_setIfInBounds_ne h]
theorem putO_at {c : Nat} (h : c < w.heap.size) (o : Obj) : (putO w c o).heap[c]? = some o := by
  show (w.heap.setIfInBounds c o)[c]? = _
  simp [h]
theorem run_setObj {c : Nat} {o o' : Obj} (h : w.heap[c]? = some o) (hc : isRow o = false) : (setObj c o').run P w = .ok () (putO w c o') := by
  cases o <;> first | (cases hc; done) | simp [setObj, Sem.run, h, putO]

theorem same_putO {c : Nat} {o : Obj} (h : w.heap[c]? = some o) (hc : isRow o = false) (hp : ∀ cs e, o ≠ .pending cs e) (x : Obj) : Same w (putO w c x) := ⟨rfl, rfl, rfl, fun {c' i} hf => by
  by_cases e : c = c'
  · subst e
    obtain ⟨⟨v, hv⟩, _⟩ := hf
    unfold World.cell? at hv
    rw [h] at hv
    cases o <;> first | (cases hc; done) | (exact absurd rfl (hp _ _)) | (simp at hv; done)
  · exact Free.of_heap (putO_far e x) hf, fun c' cs t fr hf => by
  by_cases e : c = c'
  · subst e
    rw [h] at hf
    cases hf
    cases hc
  · exact ⟨cs, (putO_far e x).trans hf, rfl⟩⟩
/-- an object that is no row changes -/
theorem ext_oth (hr : Rel φ H w) {b : Nat} {l : Loc} (hb : φ b = some l) {o o' : Oth} (hg : H.get b = .oth o) {x : Obj} (hx : othOk φ (putO w l.c x) l.c o') (hno : ∀ y, o ≠ .ro y := by intro _ h; cases h) : Ext φ H w φ (H.set b (.oth o')) (putO w l.c x) := by
  have hsz : (putO w l.c x).heap.size = w.heap.size := by simp [putO]
  have hne : ∀ {b1 : Nat} {l1 : Loc}, φ b1 = some l1 → b1 ≠ b → l1.c ≠ l.c := by
    intro b1 l1 e1 e2 e3
    obtain ⟨_, _, _, _, _, a2⟩ := hr.inj e1 hb e3 e2
    rw [hg] at a2
    cases a2
  have hcells : ∀ {b1 : Nat} {cs : List V} {g : Nat}, (H.set b (.oth o')).get b1 = .cells cs g → b1 ≠ b ∧ H.get b1 = .cells cs g := by
    intro b1 cs g h
    rw [Heap.get_set] at h
    split at h
    · cases h
    · rename_i e; exact ⟨fun e' => e e'.symm, h⟩
  have hgrp : ∀ {b1 a c : Nat}, (H.set b (.oth o')).get b1 = .grp a c → H.get b1 = .grp a c := by
    intro b1 a c h
    rw [Heap.get_set] at h
    split at h
    · cases h
    · exact h
  have hlives : ∀ {b1 g : Nat}, (H.set b (.oth o')).lives b1 g = true → H.lives b1 g = true := by
    intro b1 g h
    rcases lives_iff.1 h with e | ⟨a, c, e, e'⟩
    · exact lives_iff.2 (.inl e)
    · exact lives_iff.2 (.inr ⟨a, c, hgrp e, e'⟩)
  have hcell : ∀ {c i : Nat}, c ≠ l.c → (putO w l.c x).cell? ⟨c, i, none⟩ = w.cell? ⟨c, i, none⟩ := by
    intro c i h; unfold World.cell?; rw [putO_far (fun e => h e.symm)]
  have hfroz : ∀ {c i : Nat}, c ≠ l.c → (putO w l.c x).frozen? ⟨c, i, none⟩ = w.frozen? ⟨c, i, none⟩ := by
    intro c i h; unfold World.frozen?; rw [putO_far (fun e => h e.symm)]
  have hsame : Same w (putO w l.c x) := by
    have ho := (hr.oth hb hg).2
    cases o with
    | map es => obtain ⟨es', h1, _⟩ := ho; exact same_putO h1 rfl (by simp) x
    | iter m a b c d => obtain ⟨lm, _, _, h1, _⟩ := ho; exact same_putO h1 rfl (by simp) x
    | text s p => exact same_putO (show w.heap[l.c]? = _ from ho) rfl (by simp) x
    | loop L => obtain ⟨r, h1, _⟩ := ho; exact same_putO h1 rfl (by simp) x
    | ro y => exact absurd rfl (hno y)
  have hroomb : ∀ i, ¬ i < l.lim := by
    intro i hi
    obtain ⟨⟨v, hv⟩, _⟩ := hr.room hb hi
    have ho := (hr.oth hb hg).2
    unfold World.cell? at hv
    cases o with
    | map es => obtain ⟨es', h1, _⟩ := ho; simp [h1] at hv
    | iter m a b c d => obtain ⟨lm, _, _, h1, _⟩ := ho; simp [h1] at hv
    | text s p => have h1 : w.heap[l.c]? = _ := ho; simp [h1] at hv
    | loop L => obtain ⟨r, h1, _⟩ := ho; simp [h1] at hv
    | ro y => exact absurd rfl (hno y)
  refine ⟨⟨?_, ?_, ?_, ?_, ?_, ?_, ?_, ?_, ?_⟩, Phi.le_refl φ, fun e1 e2 => absurd (e1.symm.trans e2) (by simp), ?_, Nat.le_refl _, ?_, by rw [hsz]; exact Nat.le_refl _, hsame, fun {b1 l1} e1 e2 => ⟨by rw [Heap.get_set, if_neg (fun e => by rw [← e, hg] at e2; cases e2)]; exact e2, putO_far (fun e => hne e1 (fun e' => by rw [e', hg] at e2; cases e2) e.symm) x⟩⟩
  · intro b1 l1 cs g i v e1 e2 e3 e4
    obtain ⟨f1, f2⟩ := hcells e2
    obtain ⟨v', h1, h2⟩ := hr.cell e1 f2 (hlives e3) e4
    exact ⟨v', by rw [hcell (hne e1 f1)]; exact h1, h2⟩
  · intro b1 l1 i e1 e2
    by_cases e : b1 = b
    · subst e
      rw [hb] at e1
      cases e1
      exact absurd e2 (hroomb i)
    · rw [hcell (hne e1 e), hfroz (hne e1 e)]
      exact hr.room e1 e2
  · intro b1 l1 cs g e1 e2
    exact hr.len e1 (hcells e2).2
  · intro b1 b2 l1 l2 e1 e2 e3 e4
    obtain ⟨a1, a2, g, h1, h2, h3⟩ := hr.inj e1 e2 e3 e4
    refine ⟨a1, a2, g, h1, ?_, ?_⟩
    · rw [Heap.get_set, if_neg (by intro e; rw [← e, hg] at h2; cases h2)]; exact h2
    · rw [Heap.get_set, if_neg (by intro e; rw [← e, hg] at h3; cases h3)]; exact h3
  · intro b1 h1
    obtain ⟨f1, f2⟩ := hr.top (b := b1) h1
    refine ⟨f1, ?_⟩
    rw [Heap.get_set, if_neg (by intro e; rw [← e, hb] at f1; cases f1)]
    exact f2
  · intro b1 l1 e1
    rw [hsz]
    exact hr.loc e1
  · intro b1 cs g leaf fl e1 e2 e3
    exact hr.mem (hcells e1).2 e2 (hgrp e3)
  · intro g leaf fl e1
    exact hr.flo (hgrp e1)
  · intro b1 l1 o1 e1 e2
    by_cases e : b1 = b
    · subst e
      rw [hb] at e1
      cases e1
      rw [Heap.get_set, if_pos rfl] at e2
      cases e2
      exact ⟨(hr.oth hb hg).1, hx⟩
    · rw [Heap.get_set, if_neg (fun e' => e e'.symm)] at e2
      obtain ⟨f1, f2⟩ := hr.oth e1 e2
      exact ⟨f1, f2.mono (Phi.le_refl φ) (putO_far (fun e' => hne e1 e e'.symm) x)⟩
  · intro b1 h1 h2 h3
    rw [Heap.get_set, if_neg (by intro e; rw [← e, hb] at h2; cases h2)]
  · intro c hc hno
    exact putO_far (fun e => hno b l hb e) x

/-- a new object that is no row -/
theorem ext_newoth (hr : Rel φ H w) {o : Oth} {x : Obj} (hx : othOk (φ.add H.next ⟨w.heap.size, 0, 0⟩) (w.alloc x) w.heap.size o) :
    Ext φ H w (φ.add H.next ⟨w.heap.size, 0, 0⟩) (H.push (.oth o)) (w.alloc x) := by
  have hn : φ H.next = none := (hr.top (Nat.le_refl _)).1
  have hle := Phi.le_add (l := ⟨w.heap.size, 0, 0⟩) hn
  have hsz : (w.alloc x).heap.size = w.heap.size + 1 := by show (w.heap.push x).size = _; simp
  have hold : ∀ {y : Nat} {l : Loc}, φ.add H.next ⟨w.heap.size, 0, 0⟩ y = some l → (y = H.next ∧ l = ⟨w.heap.size, 0, 0⟩) ∨ (y ≠ H.next ∧ φ y = some l) := by
    intro y l hy
    unfold Phi.add at hy
    split at hy
    · cases hy; exact .inl ⟨by assumption, rfl⟩
    · exact .inr ⟨by assumption, hy⟩
  have hfar : ∀ {c : Nat}, c < w.heap.size → (w.alloc x).heap[c]? = w.heap[c]? := by
    intro c h
    show (w.heap.push x)[c]? = _
    simp [Array.getElem?_push, Nat.ne_of_lt h]
  have hcell : ∀ {c i : Nat}, c < w.heap.size → (w.alloc x).cell? ⟨c, i, none⟩ = w.cell? ⟨c, i, none⟩ := by
    intro c i h; unfold World.cell?; rw [hfar h]
  have hfroz : ∀ {c i : Nat}, c < w.heap.size → (w.alloc x).frozen? ⟨c, i, none⟩ = w.frozen? ⟨c, i, none⟩ := by
    intro c i h; unfold World.frozen?; rw [hfar h]
  have hcells : ∀ {b1 : Nat} {cs : List V} {g : Nat}, (H.push (.oth o)).get b1 = .cells cs g → H.get b1 = .cells cs g := by
    intro b1 cs g h
    rw [Heap.get_push] at h
    split at h
    · cases h
    · exact h
  have hgrp : ∀ {b1 a c : Nat}, (H.push (.oth o)).get b1 = .grp a c → H.get b1 = .grp a c := by
    intro b1 a c h
    rw [Heap.get_push] at h
    split at h
    · cases h
    · exact h
  have hlives : ∀ {b1 g : Nat}, (H.push (.oth o)).lives b1 g = true → H.lives b1 g = true := by
    intro b1 g h
    rcases lives_iff.1 h with e | ⟨a, c, e, e'⟩
    · exact lives_iff.2 (.inl e)
    · exact lives_iff.2 (.inr ⟨a, c, hgrp e, e'⟩)
  have hnew : ∀ {b1 : Nat} {l1 : Loc} {cs : List V} {g : Nat}, φ.add H.next ⟨w.heap.size, 0, 0⟩ b1 = some l1 → (H.push (.oth o)).get b1 = .cells cs g → φ b1 = some l1 := by
    intro b1 l1 cs g e1 e2
    rcases hold e1 with ⟨rfl, rfl⟩ | ⟨_, f⟩
    · rw [Heap.get_push, if_pos rfl] at e2; cases e2
    · exact f
  refine ⟨⟨?_, ?_, ?_, ?_, ?_, ?_, ?_, ?_, ?_⟩, hle, ?_, ?_, by show H.next ≤ H.next + 1; omega, ?_, by omega, Same.alloc w x, fun {b1 l1} e1 e2 => ⟨by rw [Heap.get_push, if_neg (fun e => by rw [← e, hn] at e1; cases e1)]; exact e2, hfar (hr.loc e1)⟩⟩
  · intro b1 l1 cs g i v e1 e2 e3 e4
    have f1 := hnew e1 e2
    obtain ⟨v', h1, h2⟩ := hr.cell f1 (hcells e2) (hlives e3) e4
    exact ⟨v', by rw [hcell (hr.loc f1)]; exact h1, h2.mono hle⟩
  · intro b1 l1 i e1 e2
    rcases hold e1 with ⟨rfl, rfl⟩ | ⟨_, f⟩
    · exact absurd e2 (Nat.not_lt_zero _)
    · rw [hcell (hr.loc f), hfroz (hr.loc f)]
      exact hr.room f e2
  · intro b1 l1 cs g e1 e2
    exact hr.len (hnew e1 e2) (hcells e2)
  · intro b1 b2 l1 l2 e1 e2 e3 e4
    rcases hold e1 with ⟨h1, h1'⟩ | ⟨h1, f1⟩
    · rcases hold e2 with ⟨h2, h2'⟩ | ⟨h2, f2⟩
      · exact absurd (h1.trans h2.symm) e4
      · have := hr.loc f2; rw [h1'] at e3; simp at e3; omega
    · rcases hold e2 with ⟨h2, h2'⟩ | ⟨h2, f2⟩
      · have := hr.loc f1; rw [h2'] at e3; simp at e3; omega
      · obtain ⟨a1, a2, g, h3, h4, h5⟩ := hr.inj f1 f2 e3 e4
        refine ⟨a1, a2, g, h3, ?_, ?_⟩
        · rw [Heap.get_push, if_neg (fun e => h1 e.symm)]; exact h4
        · rw [Heap.get_push, if_neg (fun e => h2 e.symm)]; exact h5
  · intro b1 h1
    have h1' : H.next + 1 ≤ b1 := h1
    obtain ⟨f1, f2⟩ := hr.top (b := b1) (by omega)
    refine ⟨?_, ?_⟩
    · unfold Phi.add; rw [if_neg (by omega)]; exact f1
    · rw [Heap.get_push, if_neg (by omega)]; exact f2
  · intro b1 l1 e1
    rw [hsz]
    rcases hold e1 with ⟨rfl, rfl⟩ | ⟨_, f⟩
    · simp
    · have := hr.loc f; omega
  · intro b1 cs g leaf fl e1 e2 e3
    exact hr.mem (hcells e1) e2 (hgrp e3)
  · intro g leaf fl e1
    exact hr.flo (hgrp e1)
  · intro b1 l1 o1 e1 e2
    rcases hold e1 with ⟨rfl, rfl⟩ | ⟨h1, f⟩
    · rw [Heap.get_push, if_pos rfl] at e2
      cases e2
      exact ⟨rfl, hx⟩
    · rw [Heap.get_push, if_neg (fun e => h1 e.symm)] at e2
      obtain ⟨g1, g2⟩ := hr.oth f e2
      exact ⟨g1, g2.mono hle (hfar (hr.loc f))⟩
  · intro b1 l1 e1 e2
    rcases hold e2 with ⟨rfl, rfl⟩ | ⟨_, f⟩
    · exact ⟨Nat.le_refl _, .inl (Nat.le_refl _)⟩
    · rw [e1] at f; cases f
  · intro b1 h1 _ _
    rw [Heap.get_push, if_neg (by omega)]
  · intro c hc _
    exact hfar hc
theorem alloc_at (x : Obj) : (w.alloc x).heap[w.heap.size]? = some x := by
  show (w.heap.push x)[w.heap.size]? = _
  simp

theorem makeMap_sound (hr : Rel φ H w) {t : TypeId} {r : V × Heap} (h : makeMapE [] H = some r) : EffOk P φ H w ρ ⟨dst, .makeMap t none, ty, pos, after, guard⟩ r.1 r.2 := by
  cases h
  refine ⟨.value (.map (some w.heap.size)), _, w.alloc (.map #[] 0), _, ?_, .inl rfl, ext_newoth hr ⟨[], alloc_at _, by simp [MapOk]⟩, .map (Phi.add_self _ _ _)⟩
  simp [execOp, Instr.makeMap]
theorem mem_upto {i : Nat} (n : Nat) : i ∈ upto n ↔ i < n := by
  induction n with
  | zero => show i ∈ [] ↔ _; simp
  | succ n ih =>
    show i ∈ n :: upto n ↔ _
    rw [List.mem_cons, ih]
    omega
theorem rangeMap_sound (hT : TOk P T) (hr : Rel φ H w) {t kt e : TypeId} (hd : T.und t = some (.map kt e)) {x : Operand} {m : V} (hm : Rv φ m (ρ x)) {r : V × Heap} (h : rangeE [m] H = some r) : EffOk P φ H w ρ ⟨dst, .range t x, ty, pos, after, guard⟩ r.1 r.2 := by
  generalize hx : ρ x = x' at hm
  cases hm <;> first | (cases h; done) | skip
  rename_i mb l hmb
  obtain ⟨es, h1, h⟩ := obind_some.1 (show obind (H.map? mb) _ = some r from h)
  cases h
  obtain ⟨es', g1, g2⟩ := map_ok hr hmb h1
  have hgo := run_getObj (P := P) g1 rfl
  refine ⟨.value (.pointer (some ⟨w.heap.size, 0, none⟩)), _, w.alloc (.mapIter (some l.c) es.length #[] es.length), _, ?_, .inl rfl, ext_newoth hr ⟨l, [], Phi.le_add (hr.top (Nat.le_refl _)).1 _ _ hmb, ?_, fun e => absurd rfl e, rfl, fun i hi _ => (mem_upto _).2 hi, fun i hi => ⟨(mem_upto _).1 hi, by simp⟩⟩, ?_⟩
  · simp only [execOp, Instr.range, hx, Sem.run_bind, run_underlying (hT.und hd), Result.andThen_ok, hgo, Sem.run_pure, run_newObj]
    rfl
  · rw [alloc_at, llen_eq]
  · have := Rv.ptr (o := 0) (Phi.add_self φ H.next ⟨w.heap.size, 0, 0⟩)
    simpa using this
theorem rangeStr_sound (hT : TOk P T) (hr : Rel φ H w) {t : TypeId} (hd : T.und t = some .string) {x : Operand} {m : V} (hm : Rv φ m (ρ x)) {r : V × Heap} (h : rangeSE [m] H = some r) : EffOk P φ H w ρ ⟨dst, .range t x, ty, pos, after, guard⟩ r.1 r.2 := by
  generalize hx : ρ x = x' at hm
  cases hm <;> first | (cases h; done) | skip
  rename_i s
  cases h
  refine ⟨.value (.pointer (some ⟨w.heap.size, 0, none⟩)), _, w.alloc (.stringIter ⟨⟨s⟩⟩ 0), _, ?_, .inl rfl, ext_newoth hr (alloc_at _), ?_⟩
  · simp only [execOp, Instr.range, hx, Sem.run_bind, run_underlying (hT.und hd), Result.andThen_ok, Sem.run_pure, run_newObj]
    rfl
  · have := Rv.ptr (o := 0) (Phi.add_self φ H.next ⟨w.heap.size, 0, 0⟩)
    simpa using this
theorem decode_ascii {s : List UInt8} {p : Nat} {c : UInt8} (h : s[p]? = some c) (hb : c.toNat < 128) : Utf8.decode ⟨⟨s⟩⟩ p = (c.toNat, 1) := by
  have h2 : (ByteArray.get! ⟨⟨s⟩⟩ (p + 0)) = c := by
    show (⟨s⟩ : Array UInt8)[p]! = c
    simp [getElem!_def, h]
  unfold Utf8.decode
  simp only [h2]
  rw [if_pos hb]
theorem nextStr_sound (hr : Rel φ H w) {x : Operand} {m : V} (hm : Rv φ m (ρ x)) {r : V × Heap} (h : nextSE [m] H = some r) : EffOk P φ H w ρ ⟨dst, .next x true, ty, pos, after, guard⟩ r.1 r.2 := by
  generalize hx : ρ x = x' at hm
  cases hm <;> first | (cases h; done) | skip
  rename_i b o l hb
  cases o with
  | succ o => cases h
  | zero =>
    have h' : (match H.get b with
      | .oth (.text s pos) => Option.casesOn (motive := fun _ => Option (V × Heap)) (lget? s pos) (some (.tup [.bool false], H))
          (fun c => oif (Nat.ble (Nat.succ c.toNat) 128) (some (.tup [.bool true, .int .i64 (.ofNat pos), .int .i32 (.ofNat c.toNat)], H.set b (.oth (.text s (Nat.succ pos))))))
      | _ => Option.none) = some r := h
    cases hg : H.get b <;> rw [hg] at h' <;> first | (cases h'; done) | skip
    rename_i ob
    cases ob <;> first | (cases h'; done) | skip
    rename_i s p
    obtain ⟨hbase, hob⟩ := hr.oth hb hg
    have hob' : w.heap[l.c]? = some (.stringIter ⟨⟨s⟩⟩ p) := hob
    have hgo := run_getObj (P := P) hob' rfl
    have hlc := hr.loc hb
    cases hq : lget? s p with
    | none =>
      simp only [hq] at h'
      cases h'
      rw [lget?_eq] at hq
      have hp : ¬ p < (⟨⟨s⟩⟩ : ByteArray).size := by
        have : s.length ≤ p := by simpa using hq
        exact Nat.not_lt.2 this
      refine ⟨.value (.tuple #[.bool false]), _, w, φ, ?_, .inl rfl, Ext.refl hr, .tup (.cons (.bool false) .nil)⟩
      simp only [execOp, Instr.next, hx, hbase, Nat.add_zero, Sem.run_bind, hgo, Result.andThen_ok, if_neg hp, Sem.run_pure]
    | some c =>
      simp only [hq] at h'
      obtain ⟨hc, h'⟩ := oif_some.1 h'
      cases h'
      rw [ble_le] at hc
      rw [lget?_eq] at hq
      obtain ⟨hp, hpc⟩ := List.getElem?_eq_some_iff.1 hq
      have hp' : p < (⟨⟨s⟩⟩ : ByteArray).size := hp
      have hdec := decode_ascii hq (by omega)
      have hso := run_setObj (P := P) (o' := .stringIter ⟨⟨s⟩⟩ (p + 1)) hob' rfl
      refine ⟨.value (.tuple #[.bool true, goInt p, .int .i32 c.toNat]), _, _, φ, ?_, .inl rfl, ext_oth hr hb hg (x := .stringIter ⟨⟨s⟩⟩ (p + 1)) (putO_at hlc _), .tup (.cons (.bool true) (.cons (.int .i64 _) (.cons (.int .i32 _) .nil)))⟩
      simp only [execOp, Instr.next, hx, hbase, Nat.add_zero, Sem.run_bind, hgo, Result.andThen_ok, if_pos hp', hdec, hso, Sem.run_pure]

theorem lset_eq {α : Type} (l : List α) (x : α) : ∀ n, lset l x n = l.set n x := by
  induction l with
  | nil => intro n; rfl
  | cons a l ih => intro n; cases n with
    | zero => rfl
    | succ n => exact congrArg (a :: ·) (ih n)
/-- equal keys have the same bits -/
theorem cellEq_same {d : TypeDesc} {a b : V} (h : cellEq d a b = some true) : a = b ∧ (match a with | .bool _ => True | .int _ _ => True | .str _ => True | _ => False) := by
  cases d <;> first | (cases h; done) | skip
  case bool =>
    cases a <;> first | (cases h; done) | skip
    cases b <;> first | (cases h; done) | skip
    rename_i x y
    cases x <;> cases y <;> first | (cases h; done) | exact ⟨rfl, trivial⟩
  case int =>
    cases a <;> first | (cases h; done) | skip
    cases b <;> first | (cases h; done) | skip
    rename_i k x k' y
    obtain ⟨h1, h⟩ := oif_some.1 (show oif (keq k k') (some (ieq x y)) = some true from h)
    have h2 : ieq x y = true := Option.some.inj h
    rw [keq_eq] at h1
    rw [ieq_eq] at h2
    have h1' : k = k' := by simpa using h1
    have h2' : x = y := by simpa using h2
    exact ⟨by rw [h1', h2'], trivial⟩
  case string =>
    cases a <;> first | (cases h; done) | skip
    cases b <;> first | (cases h; done) | skip
    rename_i x y
    have h2 : lall2 ueq x y = true := Option.some.inj h
    rw [lall2_ueq] at h2
    have h2' : x = y := by simpa using h2
    exact ⟨by rw [h2'], trivial⟩
theorem cellEq_bits {d : TypeDesc} {a b : V} (h : cellEq d a b = some true) {a' b' : Value} (ha : Rv φ a a') (hb : Rv φ b b') (n : Nat) : a' = b' ∧ Instr.sameBits n b' a' = true := by
  obtain ⟨rfl, h2⟩ := cellEq_same h
  cases ha <;> first | (exact h2.elim) | skip
  all_goals cases hb <;> exact ⟨rfl, by cases n <;> simp [Instr.sameBits, beq_toListBytes]⟩
theorem cellsEq_bits : ∀ {ds : List TypeDesc} {xs ys : List V}, cellsEq ds xs ys = some true → ∀ {xs' ys' : List Value}, Rvs φ xs xs' → Rvs φ ys ys' → ∀ n, xs' = ys' ∧ (ys'.zip xs').all (fun (x, y) => Instr.sameBits n x y) = true := by
  intro ds
  induction ds with
  | nil =>
    intro xs ys h xs' ys' hx hy n
    cases xs <;> cases ys <;> first | (cases h; done) | skip
    cases hx
    cases hy
    exact ⟨rfl, rfl⟩
  | cons d ds ih =>
    intro xs ys h xs' ys' hx hy n
    obtain ⟨x, xs, y, ys, a, b, rfl, rfl, e1, e2, e3⟩ := cellsEq_cons h
    have e3' : a = true ∧ b = true := by simpa using e3.symm
    obtain ⟨rfl, rfl⟩ := e3'
    obtain ⟨x', xr, rfl, hx1, hx2⟩ := hx.cons_inv
    obtain ⟨y', yr, rfl, hy1, hy2⟩ := hy.cons_inv
    obtain ⟨f1, f2⟩ := cellEq_bits e1 hx1 hy1 n
    obtain ⟨g1, g2⟩ := ih e2 hx2 hy2 n
    exact ⟨by rw [f1, g1], by simp [f2]; simpa using g2⟩
theorem key_bits {kt : TypeId} {f : V → V → Option Bool} (hf : keyEq T kt = some f) {a b : V} (h : f a b = some true) {a' b' : Value} (ha : Rv φ a a') (hb : Rv φ b b') : Instr.sameBits 10000 b' a' = true := by
  obtain ⟨d, hd, ⟨h1, rfl⟩ | ⟨h1, ds, h2, rfl⟩⟩ := keyEq_some hf
  · exact (cellEq_bits h ha hb 10000).2
  · obtain ⟨x, y, rfl, rfl, h3⟩ := keyAgg h
    obtain ⟨x', rfl, hx⟩ := ha.agg_inv
    obtain ⟨y', rfl, hy⟩ := hb.agg_inv
    obtain ⟨e1, e2⟩ := cellsEq_bits h3 hx hy 9999
    have hl : x'.length = y'.length := by rw [e1]
    simp [Instr.sameBits, hl]
    simpa using e2
theorem mfind_some {f : V → V → Option Bool} {k : V} : ∀ {es : List (V × V)} {i j : Nat} {v : V}, mfind f k es i = some (some (j, v)) → ∃ k0, i ≤ j ∧ es[j - i]? = some (k0, v) ∧ f k k0 = some true := by
  intro es
  induction es with
  | nil => intro i j v h; cases h
  | cons e es ih =>
    intro i j v h
    obtain ⟨b, hb, ⟨rfl, hr⟩ | ⟨rfl, hr⟩⟩ := mfind_cons h
    · cases hr
      exact ⟨e.1, Nat.le_refl _, by simp, hb⟩
    · obtain ⟨k0, h1, h2, h3⟩ := ih hr
      refine ⟨k0, by omega, ?_, h3⟩
      have : j - i = (j - (i + 1)) + 1 := by omega
      rw [this]
      simpa using h2
theorem update_sound (hT : TOk P T) (hr : Rel φ H w) {t kt e : TypeId} (hd : T.und t = some (.map kt e)) {f : V → V → Option Bool} (hf : keyEq T kt = some f) {m k v : V} {m' k' v' : Value} (hm : Rv φ m m') (hk : Rv φ k k') (hv : Rv φ v v') {r : V × Heap} (h : updateE f [m, k, v] H = some r) :
    ∃ w', (Instr.mapUpdate t m' k' v').run P w = .ok () w' ∧ Ext φ H w φ r.2 w' ∧ r.1 = V.undef := by
  cases hm <;> first | (cases h; done) | skip
  rename_i mb l hmb
  obtain ⟨b, hb, h⟩ := obind_some.1 (show obind (f k k) _ = some r from h)
  obtain ⟨es, h1, h⟩ := obind_some.1 h
  obtain ⟨q, h2, h⟩ := obind_some.1 h
  have hmg := map?_some h1
  obtain ⟨es', g1, g2⟩ := map_ok hr hmb h1
  obtain ⟨q', g3, g4⟩ := findKey_run hT hf hk g2 h2 w
  have hgo := run_getObj (P := P) g1 rfl
  have hck := check_run hT hf hk hb false w
  have hlc := hr.loc hmb
  have hu := run_underlying (hT.und hd) w
  cases q with
  | none =>
    cases h
    cases q' with
    | some x => exact g4.elim
    | none =>
      have hso := run_setObj (P := P) (o' := .map ((⟨es'⟩ : Array MapEntry).push { key := k', val := v', born := es.length }) (es.length + 1)) g1 rfl
      refine ⟨_, ?_, ext_oth hr hmb hmg (o' := .map (lapp es [(k, v)])) (x := .map ((⟨es'⟩ : Array MapEntry).push { key := k', val := v', born := es.length }) (es.length + 1)) ?_, rfl⟩
      · simp only [Instr.mapUpdate, Sem.run_bind, hu, Result.andThen_ok, hgo, hck, g3, hso]
      · refine ⟨es' ++ [{ key := k', val := v', born := es.length }], ?_, ?_⟩
        · rw [putO_at hlc, lapp_eq]
          simp
        · rw [lapp_eq]
          refine ⟨by simp [g2.1], ?_⟩
          intro i k1 v1 hi
          rcases Nat.lt_or_ge i es.length with hlt | hge
          · rw [List.getElem?_append_left hlt] at hi
            obtain ⟨x, f1, f2⟩ := g2.2 i k1 v1 hi
            exact ⟨x, by rw [List.getElem?_append_left (by rw [g2.1]; exact hlt)]; exact f1, f2⟩
          · rw [List.getElem?_append_right hge] at hi
            have hi0 : i = es.length := by
              have := (List.getElem?_eq_some_iff.1 hi).1
              simp at this
              omega
            subst hi0
            simp at hi
            obtain ⟨rfl, rfl⟩ := hi
            refine ⟨{ key := k', val := v', born := es.length }, ?_, hk, hv, rfl⟩
            rw [List.getElem?_append_right (by rw [g2.1]; exact Nat.le_refl _), g2.1]
            simp
  | some x =>
    obtain ⟨j, u⟩ := x
    cases h
    cases q' with
    | none => exact g4.elim
    | some x' =>
      obtain ⟨j', u'⟩ := x'
      obtain ⟨rfl, hu'⟩ := g4
      obtain ⟨k0, _, h3, h4⟩ := mfind_some h2
      rw [Nat.sub_zero] at h3
      obtain ⟨x0, f1, f2, f3, f4⟩ := g2.2 j k0 u h3
      have hbits := key_bits hf h4 hk f2
      have hjl : j < es'.length := (List.getElem?_eq_some_iff.1 f1).1
      have hso := run_setObj (P := P) (o' := .map ((⟨es'⟩ : Array MapEntry).modify j fun e => { e with key := k', val := v' }) es.length) g1 rfl
      refine ⟨_, ?_, ext_oth hr hmb hmg (o' := .map (lset es (k, v) j)) (x := .map ((⟨es'⟩ : Array MapEntry).modify j fun e => { e with key := k', val := v' }) es.length) ?_, rfl⟩
      · have hkey : (Instr.keyThatStays ((((⟨es'⟩ : Array MapEntry)[j]?).map (·.key)).getD k') k').run P w = .ok k' w := by
          have : (⟨es'⟩ : Array MapEntry)[j]? = some x0 := by simpa using f1
          simp [Instr.keyThatStays, this, hbits]
        simp only [Instr.mapUpdate, Sem.run_bind, hu, Result.andThen_ok, hgo, hck, g3, hkey, hso]
      · refine ⟨es'.modify j fun e => { e with key := k', val := v' }, ?_, ?_⟩
        · rw [putO_at hlc, lset_eq]
          simp
        · rw [lset_eq]
          refine ⟨by simp [g2.1], ?_⟩
          intro i k1 v1 hi
          rw [List.getElem?_set] at hi
          rw [List.getElem?_modify]
          by_cases hij : j = i
          · subst hij
            rw [if_pos rfl] at hi
            split at hi
            · cases hi
              refine ⟨{ x0 with key := k', val := v' }, by simp [f1], hk, hv, f4⟩
            · cases hi
          · rw [if_neg hij] at hi
            obtain ⟨x, e1, e2⟩ := g2.2 i k1 v1 hi
            exact ⟨x, by simp [hij, e1], e2⟩
end
end Go.Ev
/- The abstract evaluator, part Z: copy; the dispatcher of the operations that write. -/
namespace Go.Ev
section
variable {P : Program} {φ : Phi} {H H' : Heap} {w w' : World} {ρ : Operand → Value} {T : Ty} {N : Fns} {F : Fr} {dst : Option Tmp} {ty : TypeId} {pos : String} {after : Array Edge} {guard : Option (Nat × Bool)}

theorem copy_sound (hT : TOk P T) (hr : Rel φ H w) {st e : TypeId} {n : Nat} (hu : T.und st = some (.slice e)) (hn : sizeT T e = some n) {ts : Array TypeId} (h0 : ts[0]? = some st) {sx x : Operand} {s y : V} (hs : Rv φ s (ρ sx)) (hy : Rv φ y (ρ x)) {r : V × Heap} (h : copyE n [s, y] H = some r) :
    EffOk P φ H w ρ ⟨dst, .call ⟨.builtin .copy, #[sx, x], ts⟩, ty, pos, after, guard⟩ r.1 r.2 := by
  have hub := run_underlying (hT.und hu)
  have hrun : ∀ {a : Option Addr} {len cap m k : Nat} {new' : List Value} {w' : World}, ρ sx = .slice a len cap → (Builtin.lenOf (ρ x)).run P w = .ok m w → Nat.min m len = k → (Builtin.firstCells n k (ρ x)).run P w = .ok ⟨new'⟩ w →
      (match a with | some a => storeCells a new' | none => pure () : Sem Unit).run P w = .ok () w' →
      (execOp ρ ⟨dst, .call ⟨.builtin .copy, #[sx, x], ts⟩, ty, pos, after, guard⟩).run P w = .ok (.value (.int .i64 k)) w' := by
    intro a len cap m k new' w' e1 e2 e3 e4 e5
    simp only [execOp, resolve, invoke, builtin, Builtin.copy_]
    have g0 : (#[ρ sx, ρ x] : Array Value)[0]? = some (ρ sx) := rfl
    have g1 : (#[ρ sx, ρ x] : Array Value)[1]? = some (ρ x) := rfl
    have ga : (#[sx, x] : Array Operand).map ρ = #[ρ sx, ρ x] := by simp
    cases a with
    | none => cases e5; simp [h0, e1, hub, e2, e3, run_sizeT hT hn, e4, goInt]
    | some a => simp at e5; simp [h0, e1, hub, e2, e3, run_sizeT hT hn, e4, goInt, e5]
  generalize hsv : ρ sx = sv at hs
  cases hs <;> first | (cases h; done) | skip
  · rename_i b o len cap cap' l hb hl1 hl2
    obtain ⟨m, hm, hA⟩ := obind_some.1 (show obind (lenOfV y) _ = some r from h)
    obtain ⟨new, hnew, hB⟩ := obind_some.1 hA
    obtain ⟨H2, hst, hC⟩ := obind_some.1 hB
    cases hC
    obtain ⟨new', hnr, hnf⟩ := first_ok (P := P) hr hy hnew
    obtain ⟨e1, e2⟩ := store_ext (P := P) hr hb hnr hst
    have hnf' := hnf 0
    simp only [Nat.add_zero] at hnf'
    refine ⟨_, _, _, φ, hrun hsv (len_ok hy hm) (k := nmin m len) (by rw [nmin_eq]) hnf' e1, .inl rfl, e2, .int _ _⟩
  · obtain ⟨m, hm, hA⟩ := obind_some.1 (show obind (lenOfV y) _ = some r from h)
    obtain ⟨new, hnew, hB⟩ := obind_some.1 hA
    cases hB
    obtain ⟨new', hnr, hnf⟩ := first_ok (P := P) hr hy hnew
    have hnf' := hnf 0
    simp only [Nat.add_zero] at hnf'
    exact ⟨_, _, _, φ, hrun hsv (len_ok hy hm) (k := 0) (by simp) hnf' rfl, .inl rfl, Ext.refl hr, .int _ _⟩
  · obtain ⟨m, hm, hA⟩ := obind_some.1 (show obind (lenOfV y) _ = some r from h)
    obtain ⟨new, hnew, hB⟩ := obind_some.1 hA
    cases hB
    have h1 := first_zero hnew
    subst h1
    obtain ⟨new', hnr, hnf⟩ := first_ok (P := P) hr hy hnew
    cases hnr
    have hnf' := hnf 0
    simp only [Nat.add_zero] at hnf'
    exact ⟨_, _, _, φ, hrun hsv (len_ok hy hm) (k := 0) (by simp) hnf' rfl, .inl rfl, Ext.refl hr, .int _ _⟩

theorem eff_sound (hT : TOk P T) (hr : Rel φ H w) (o : Oper) {xs : List (Fr → V)} {g : List V → Heap → Option (V × Heap)} (hc : cop N T o.op = .eff xs g) (ho : OpRel φ F ρ o.op.operands.toList) {r : V × Heap} (h : g (vals xs F) H = some r) :
    EffOk P φ H w ρ o r.1 r.2 := by
  obtain ⟨dst, op, ty, pos, after, guard⟩ := o
  simp only at hc ho
  cases op <;> simp only [cop, reduceCtorEq] at hc <;> simp only [Op.operands] at ho
  case assign x =>
    obtain ⟨f, hf, hc⟩ := obind_some.1 (ofO_ne hc (by simp))
    cases hc
    cases h
    exact assign_sound hr (one_rel ho hf)
  case store t a v =>
    obtain ⟨fs, hf, hc⟩ := obind_some.1 (ofO_ne hc (by simp))
    obtain ⟨n, hn, hc⟩ := obind_some.1 hc
    cases hc
    obtain ⟨x, y, hv, h1, h2⟩ := two_rel ho hf
    rw [hv] at h
    exact store_sound hT hr hn h1 h2 h
  case makeMap t q =>
    cases q <;> cases hc
    exact makeMap_sound hr h
  case lookup t x i ok =>
    obtain ⟨_, _, hc⟩ := obind_some.1 (ofO_ne hc (by simp))
    obtain ⟨d, _, hc⟩ := obind_some.1 hc
    cases d <;> simp only [reduceCtorEq] at hc
    obtain ⟨_, _, hc⟩ := obind_some.1 hc
    obtain ⟨_, _, hc⟩ := obind_some.1 hc
    obtain ⟨_, _, hc⟩ := obind_some.1 hc
    obtain ⟨_, _, hc⟩ := obind_some.1 hc
    cases hc
  case mapUpdate t m k v =>
    obtain ⟨fs, hfs, hc⟩ := obind_some.1 (ofO_ne hc (by simp))
    obtain ⟨d, hd, hc⟩ := obind_some.1 hc
    cases d <;> simp only [reduceCtorEq] at hc
    obtain ⟨f, hf, hc⟩ := obind_some.1 hc
    cases hc
    obtain ⟨a, b, c, hv, h1, h2, h3⟩ := three_rel ho hfs
    rw [hv] at h
    obtain ⟨w', g1, g2, g3⟩ := update_sound hT hr hd hf h1 h2 h3 h
    exact ⟨.skip, undef, w', φ, by simp [execOp, g1], .inr ⟨rfl, rfl⟩, g2, by rw [g3]; exact .tup .nil⟩
  case insert t m k v =>
    obtain ⟨fs, hfs, hc⟩ := obind_some.1 (ofO_ne hc (by simp))
    obtain ⟨d, hd, hc⟩ := obind_some.1 hc
    cases d <;> simp only [reduceCtorEq] at hc
    obtain ⟨f, hf, hc⟩ := obind_some.1 hc
    cases hc
    obtain ⟨a, b, c, hv, h1, h2, h3⟩ := three_rel ho hfs
    rw [hv] at h
    obtain ⟨w', g1, g2, g3⟩ := update_sound hT hr hd hf h1 h2 h3 h
    exact ⟨.skip, undef, w', φ, by simp [execOp, g1], .inr ⟨rfl, rfl⟩, g2, by rw [g3]; exact .tup .nil⟩
  case range t x =>
    obtain ⟨f, hf, hc⟩ := obind_some.1 (ofO_ne hc (by simp))
    obtain ⟨d, hd, hc⟩ := obind_some.1 hc
    cases d <;> simp only [reduceCtorEq] at hc <;> cases hc
    · exact rangeStr_sound hT hr hd (one_rel ho hf) h
    · exact rangeMap_sound hT hr hd (one_rel ho hf) h
  case next x isS =>
    obtain ⟨f, hf, hc⟩ := obind_some.1 (ofO_ne hc (by simp))
    cases isS <;> cases hc
    exact nextStr_sound hr (one_rel ho hf) h
  case entry x =>
    obtain ⟨_, _, hc⟩ := obind_some.1 (ofO_ne hc (by simp))
    cases hc
  case load t a =>
    obtain ⟨_, _, hc⟩ := obind_some.1 (ofO_ne hc (by simp))
    obtain ⟨_, _, hc⟩ := obind_some.1 hc
    obtain ⟨_, _, hc⟩ := obind_some.1 hc
    cases hc
  case convert s d x =>
    obtain ⟨f, hf, hc⟩ := obind_some.1 (ofO_ne hc (by simp))
    have hc' : convC T s d [f] = .eff xs g := Option.some.inj hc
    unfold convC at hc'
    split at hc' <;> first | (cases hc'; done) | (split at hc' <;> cases hc')
  case call c =>
    obtain ⟨callee, args, ts⟩ := c
    have hc1 := ofO_ne hc (by simp)
    clear hc
    have hoa : OpRel φ F ρ args.toList := fun y hy => ho y (by simp [Call.operands]; exact .inr (by simpa using hy))
    cases callee with
    | value x =>
      cases x <;> simp only [] at hc1
      case func f =>
        obtain ⟨fn, _, hc1⟩ := obind_some.1 hc1
        obtain ⟨_, _, hc1⟩ := obind_some.1 hc1
        cases hb : fn.body with
        | none =>
          rw [hb] at hc1
          obtain ⟨_, hc1⟩ := oif_some.1 hc1
          obtain ⟨_, _, hc1⟩ := obind_some.1 hc1
          cases hc1
        | some b => rw [hb] at hc1; cases hc1
      all_goals
        obtain ⟨_, _, hc1⟩ := obind_some.1 hc1
        cases hc1
    | invoke x m => cases hc1
    | builtin bi =>
      obtain ⟨fs, hfs, hc1⟩ := obind_some.1 hc1
      have hc2 := ofO_ne (Option.some.inj hc1) (by simp)
      obtain ⟨t, ht, hc2⟩ := obind_some.1 hc2
      obtain ⟨d, hd, hc2⟩ := obind_some.1 hc2
      have ht' := lk ht
      have hv := opds_some hfs hoa
      have hbi : ∀ {q : List V → Heap → Option (V × Heap)}, (∀ {a b c}, q (a :: b :: c) H = some r → c = []) → (∀ {a}, q [a] H ≠ some r) → q [] H ≠ some r → q (vals fs F) H = some r →
          ∃ x y a b, args = #[x, y] ∧ vals fs F = [a, b] ∧ Rv φ a (ρ x) ∧ Rv φ b (ρ y) := by
        intro q q2 q1 q0 hq
        generalize hl : vals fs F = l at hv hq
        obtain ⟨m⟩ := args
        match l, hq with
        | [], hq => exact absurd hq q0
        | [a], hq => exact absurd hq q1
        | a :: b :: c, hq =>
          have := q2 hq
          subst this
          match m with
          | [] => cases hv
          | [_] => cases hv with | cons _ h2 => cases h2
          | [x, y] => cases hv with | cons h1 h2 => cases h2 with | cons h3 h4 => exact ⟨x, y, a, b, rfl, rfl, h1, h3⟩
          | _ :: _ :: _ :: _ => cases hv with | cons h1 h2 => cases h2 with | cons h3 h4 => cases h4
      cases bi <;> simp only [reduceCtorEq] at hc2
      case len => split at hc2 <;> cases hc2
      case cap => split at hc2 <;> cases hc2
      case max => cases hc2
      case min => cases hc2
      case append =>
        split at hc2
        · rename_i e hde
          obtain ⟨i, hi, hc2⟩ := obind_some.1 hc2
          obtain ⟨z, hz, hc2⟩ := obind_some.1 hc2
          obtain ⟨zs, hzs, hc2⟩ := obind_some.1 hc2
          obtain ⟨hlen, hc2⟩ := oif_some.1 hc2
          obtain ⟨hz2, hc2⟩ := oif_some.1 hc2
          cases hc2
          obtain ⟨xt, hxt, hz⟩ := obind_some.1 hz
          obtain ⟨xd, hxd, hz⟩ := obind_some.1 hz
          obtain ⟨x, y, a, b, rfl, hab, h1, h2⟩ := hbi (q := appendE i.size i.bytes) (fun {a b c} hq => by cases c with | nil => rfl | cons => cases hq) (fun hq => by cases hq) (fun hq => by cases hq) h
          rw [hab] at h
          rw [beq_eq, llen_eq] at hlen
          refine append_sound hT hr hd hi hzs hlen (hT.und hxd) (fun k e => ?_) ht' (lk hxt) h1 h2 h
          subst e
          cases hz
          simp at hz2
        · cases hc2
      case copy =>
        split at hc2
        · rename_i e hde
          obtain ⟨n, hn, hc2⟩ := obind_some.1 hc2
          cases hc2
          obtain ⟨x, y, a, b, rfl, hab, h1, h2⟩ := hbi (q := copyE n) (fun {a b c} hq => by cases c with | nil => rfl | cons => cases a <;> cases hq) (fun {a} hq => by cases a <;> cases hq) (fun hq => by cases hq) h
          rw [hab] at h
          exact copy_sound hT hr hd hn ht' h1 h2 h
        · cases hc2
  case makeFunc fn a b =>
    cases fn <;> simp only [reduceCtorEq] at hc
    obtain ⟨_, _, hc⟩ := obind_some.1 (ofO_ne hc (by simp))
    cases hc
  case build t parts =>
    obtain ⟨_, _, hc⟩ := obind_some.1 (ofO_ne hc (by simp))
    obtain ⟨_, _, hc⟩ := obind_some.1 hc
    split at hc
    · obtain ⟨_, _, hc⟩ := obind_some.1 hc
      obtain ⟨_, _, hc⟩ := obind_some.1 hc
      cases hc
    · obtain ⟨_, _, hc⟩ := obind_some.1 hc
      obtain ⟨_, _, hc⟩ := obind_some.1 hc
      cases hc
    · cases hc
  case buildSlice t n parts =>
    obtain ⟨_, _, hc⟩ := obind_some.1 (ofO_ne hc (by simp))
    split at hc
    · obtain ⟨_, _, hc⟩ := obind_some.1 hc
      obtain ⟨_, hc⟩ := oif_some.1 hc
      obtain ⟨_, _, hc⟩ := obind_some.1 hc
      obtain ⟨_, _, hc⟩ := obind_some.1 hc
      obtain ⟨_, hc⟩ := oif_some.1 hc
      cases hc
    · cases hc
  case binOp op t x y yt =>
    obtain ⟨fs, hf, hc⟩ := obind_some.1 (ofO_ne hc (by simp))
    have hc' : binC T op t fs = .eff xs g := Option.some.inj hc
    unfold binC at hc'
    split at hc' <;> (try split at hc') <;> (try split at hc') <;> cases hc'
  case move x =>
    obtain ⟨_, _, hc⟩ := obind_some.1 (ofO_ne hc (by simp))
    cases hc
  case pick c x y =>
    obtain ⟨_, _, hc⟩ := obind_some.1 (ofO_ne hc (by simp))
    cases hc
  case alloc t =>
    obtain ⟨_, _, hc⟩ := obind_some.1 (ofO_ne hc (by simp))
    cases hc
  case box t x =>
    obtain ⟨_, _, hc⟩ := obind_some.1 (ofO_ne hc (by simp))
    cases hc
  case nilCheck x =>
    obtain ⟨_, _, hc⟩ := obind_some.1 (ofO_ne hc (by simp))
    cases hc
  case extract x i =>
    obtain ⟨_, _, hc⟩ := obind_some.1 (ofO_ne hc (by simp))
    cases hc
  case unOp op t x =>
    obtain ⟨_, _, hc⟩ := obind_some.1 (ofO_ne hc (by simp))
    cases op <;> cases hc
  case makeSlice t l c =>
    obtain ⟨_, _, hc⟩ := obind_some.1 (ofO_ne hc (by simp))
    obtain ⟨_, _, hc⟩ := obind_some.1 hc
    split at hc
    · obtain ⟨_, _, hc⟩ := obind_some.1 hc
      obtain ⟨_, _, hc⟩ := obind_some.1 hc
      obtain ⟨_, hc⟩ := oif_some.1 hc
      cases hc
    · cases hc
  case slice t x lo hi mx =>
    obtain ⟨_, _, hc⟩ := obind_some.1 (ofO_ne hc (by simp))
    obtain ⟨_, _, hc⟩ := obind_some.1 hc
    split at hc
    · cases hc
    · obtain ⟨_, _, hc⟩ := obind_some.1 hc
      cases hc
    · obtain ⟨_, _, hc⟩ := obind_some.1 hc
      cases hc
    · cases hc
  case fieldAddr s x f =>
    obtain ⟨_, _, hc⟩ := obind_some.1 (ofO_ne hc (by simp))
    obtain ⟨_, _, hc⟩ := obind_some.1 hc
    split at hc
    · obtain ⟨_, _, hc⟩ := obind_some.1 hc
      obtain ⟨_, _, hc⟩ := obind_some.1 hc
      obtain ⟨_, hc⟩ := oif_some.1 hc
      cases hc
    · cases hc
  case field s x f =>
    obtain ⟨_, _, hc⟩ := obind_some.1 (ofO_ne hc (by simp))
    obtain ⟨_, _, hc⟩ := obind_some.1 hc
    split at hc
    · obtain ⟨_, _, hc⟩ := obind_some.1 hc
      obtain ⟨_, _, hc⟩ := obind_some.1 hc
      obtain ⟨_, _, hc⟩ := obind_some.1 hc
      cases hc
    · cases hc
  case indexAddr t x i =>
    obtain ⟨_, _, hc⟩ := obind_some.1 (ofO_ne hc (by simp))
    obtain ⟨_, _, hc⟩ := obind_some.1 hc
    split at hc
    · obtain ⟨_, _, hc⟩ := obind_some.1 hc
      cases hc
    · obtain ⟨_, _, hc⟩ := obind_some.1 hc
      cases hc
    · cases hc
  case index t x i =>
    obtain ⟨_, _, hc⟩ := obind_some.1 (ofO_ne hc (by simp))
    obtain ⟨_, _, hc⟩ := obind_some.1 hc
    split at hc
    · cases hc
    · obtain ⟨_, _, hc⟩ := obind_some.1 hc
      obtain ⟨_, _, hc⟩ := obind_some.1 hc
      cases hc
    · cases hc
end
end Go.Ev
/- The abstract evaluator, part Aa: one operation of a region. -/
namespace Go.Ev

section
variable {P : Program} {φ : Phi} {H H' : Heap} {w : World} {ρ : Operand → Value} {T : Ty} {N : Fns} {F F' : Fr} {G : Nat}

theorem run_callFunc {f : FuncId} {fn : Func} {c : Code} (hf : P.funcs[f]? = some fn) (hb : fn.body = some c) (hn : (fn.name == "runtime.NumGoroutine") = false) (args : Array Value) (w : World) : (callFunc f args).run P w = .ok (.enter f args) w := by
  have hn' : ¬ fn.name = "runtime.NumGoroutine" := by simpa using hn
  simp [callFunc, hf, hn', hb]

/-- a function with a body -/
def FnIs (P : Program) (f : FuncId) : Prop := ∃ fn c, P.funcs[f]? = some fn ∧ fn.body = some c ∧ (fn.name == "runtime.NumGoroutine") = false
/-- an operation enters a call -/
def Enters (P : Program) (φ : Phi) (w : World) (s : Sem Next) (args : List V) : Tgt → Prop
  | .fn f => FnIs P f → ∃ args', s.run P w = .ok (.enter f ⟨args'⟩) w ∧ Rvs φ args args'
  | .yld b => ∃ l args', φ b = some l ∧ s.run P w = (Instr.yield l.c ⟨args'⟩).run P w ∧ Rvs φ args args'
theorem call_run (hρ : ∀ f, ρ (.func f) = .func (.func f) #[] #[]) (o : Oper) {xs : List (Fr → V)} {g : List V → Option (Tgt × List V)} (hc : cop N T o.op = .call xs g) (ho : OpRel φ F ρ o.op.operands.toList) {t : Tgt} {args : List V} (h : g (vals xs F) = some (t, args)) :
    Enters P φ w (execOp ρ o) args t := by
  obtain ⟨dst, op, ty, pos, after, guard⟩ := o
  simp only at hc ho
  cases op <;> simp only [cop, reduceCtorEq] at hc <;> simp only [Op.operands] at ho
  case call c =>
    obtain ⟨callee, oargs, ts⟩ := c
    have hc1 := ofO_ne hc (by simp)
    clear hc
    have hoa : OpRel φ F ρ oargs.toList := fun y hy => ho y (by simp [Call.operands]; exact .inr (by simpa using hy))
    have hmap : oargs.map ρ = ⟨oargs.toList.map ρ⟩ := by apply Array.ext'; simp
    cases callee with
    | value x =>
      have hval : ∀ {ys : List (Fr → V)}, opds (x :: oargs.toList) = some ys → callV (vals ys F) = some (t, args) → Enters P φ w (execOp ρ ⟨dst, .call ⟨.value x, oargs, ts⟩, ty, pos, after, guard⟩) args t := by
        intro ys hys hcv
        have hv := opds_some hys (φ := φ) (F := F) (ρ := ρ) (fun y hy => ho y (by simp [Call.operands]; simpa using hy))
        generalize vals ys F = l at hv hcv
        rw [List.map_cons] at hv
        cases hv with
        | cons h1 h2 =>
          generalize hx : ρ x = x' at h1
          cases h1 <;> first | (cases hcv; done) | skip
          · rename_i ff as bs as' bs' ha hbb
            cases hcv
            rintro ⟨fn, c, hf, hb, hn⟩
            refine ⟨as' ++ (oargs.toList.map ρ ++ bs'), ?_, ?_⟩
            · simp only [execOp, resolve, hx, Deferred.ofValue, invoke]
              simp only [Sem.run_bind, Sem.run_pure, Result.andThen_ok]
              rw [run_callFunc hf hb hn]
              congr 2
              apply Array.ext'
              simp [hmap]
            · rw [lapp_eq, lapp_eq]
              exact ha.append (h2.append hbb)
          · rename_i b l hb
            cases hcv
            refine ⟨l, oargs.toList.map ρ, hb, ?_, h2⟩
            simp only [execOp, resolve, hx, Deferred.ofValue, invoke]
            simp only [Sem.run_bind, Sem.run_pure, Result.andThen_ok]
            congr 2
            apply Array.ext'
            simp [hmap]
      cases x <;> simp only [] at hc1
      case func ff =>
        obtain ⟨fn', hfn, hc1⟩ := obind_some.1 hc1
        obtain ⟨ys, hys, hc1⟩ := obind_some.1 hc1
        cases hbd : fn'.body with
        | none =>
          rw [hbd] at hc1
          obtain ⟨_, hc1⟩ := oif_some.1 hc1
          obtain ⟨_, _, hc1⟩ := obind_some.1 hc1
          cases hc1
        | some b =>
          rw [hbd] at hc1
          cases hc1
          cases h
          rintro ⟨fn, c, hf, hb, hn⟩
          refine ⟨oargs.toList.map ρ, ?_, opds_some hys hoa⟩
          simp only [execOp, resolve, hρ, Deferred.ofValue, invoke]
          simp only [Sem.run_bind, Sem.run_pure, Result.andThen_ok]
          rw [run_callFunc hf hb hn]
          congr 2
          apply Array.ext'
          simp [hmap]
      all_goals
        obtain ⟨ys, hys, hc1⟩ := obind_some.1 hc1
        cases hc1
        exact hval hys h
    | invoke x m => cases hc1
    | builtin bi =>
      obtain ⟨fs, hfs, hc1⟩ := obind_some.1 hc1
      have hc2 := ofO_ne (Option.some.inj hc1) (by simp)
      obtain ⟨t, ht, hc2⟩ := obind_some.1 hc2
      obtain ⟨d, hd, hc2⟩ := obind_some.1 hc2
      cases bi <;> simp only [reduceCtorEq] at hc2
      case len => split at hc2 <;> cases hc2
      case cap => split at hc2 <;> cases hc2
      case max => cases hc2
      case min => cases hc2
      case append =>
        split at hc2
        · obtain ⟨i, hi, hc2⟩ := obind_some.1 hc2
          obtain ⟨z, hz, hc2⟩ := obind_some.1 hc2
          obtain ⟨zs, hzs, hc2⟩ := obind_some.1 hc2
          obtain ⟨hlen, hc2⟩ := oif_some.1 hc2
          obtain ⟨hz2, hc2⟩ := oif_some.1 hc2
          cases hc2
        · cases hc2
      case copy =>
        split at hc2
        · obtain ⟨n, hn, hc2⟩ := obind_some.1 hc2
          cases hc2
        · cases hc2
  case makeMap t q => cases q <;> cases hc
  case lookup t x i ok =>
    obtain ⟨_, _, hc⟩ := obind_some.1 (ofO_ne hc (by simp))
    obtain ⟨d, _, hc⟩ := obind_some.1 hc
    cases d <;> simp only [reduceCtorEq] at hc
    obtain ⟨_, _, hc⟩ := obind_some.1 hc
    obtain ⟨_, _, hc⟩ := obind_some.1 hc
    obtain ⟨_, _, hc⟩ := obind_some.1 hc
    obtain ⟨_, _, hc⟩ := obind_some.1 hc
    cases hc
  case mapUpdate t m k v =>
    obtain ⟨_, _, hc⟩ := obind_some.1 (ofO_ne hc (by simp))
    obtain ⟨d, _, hc⟩ := obind_some.1 hc
    cases d <;> simp only [reduceCtorEq] at hc
    obtain ⟨_, _, hc⟩ := obind_some.1 hc
    cases hc
  case insert t m k v =>
    obtain ⟨_, _, hc⟩ := obind_some.1 (ofO_ne hc (by simp))
    obtain ⟨d, _, hc⟩ := obind_some.1 hc
    cases d <;> simp only [reduceCtorEq] at hc
    obtain ⟨_, _, hc⟩ := obind_some.1 hc
    cases hc
  case range t x =>
    obtain ⟨_, _, hc⟩ := obind_some.1 (ofO_ne hc (by simp))
    obtain ⟨d, _, hc⟩ := obind_some.1 hc
    cases d <;> simp only [reduceCtorEq] at hc <;> cases hc
  case next x isS =>
    obtain ⟨_, _, hc⟩ := obind_some.1 (ofO_ne hc (by simp))
    cases isS <;> cases hc
  case entry x =>
    obtain ⟨_, _, hc⟩ := obind_some.1 (ofO_ne hc (by simp))
    cases hc
  case makeFunc fn a b =>
    cases fn <;> simp only [reduceCtorEq] at hc
    obtain ⟨_, _, hc⟩ := obind_some.1 (ofO_ne hc (by simp))
    cases hc
  case build t parts =>
    obtain ⟨_, _, hc⟩ := obind_some.1 (ofO_ne hc (by simp))
    obtain ⟨_, _, hc⟩ := obind_some.1 hc
    split at hc
    · obtain ⟨_, _, hc⟩ := obind_some.1 hc
      obtain ⟨_, _, hc⟩ := obind_some.1 hc
      cases hc
    · obtain ⟨_, _, hc⟩ := obind_some.1 hc
      obtain ⟨_, _, hc⟩ := obind_some.1 hc
      cases hc
    · cases hc
  case buildSlice t n parts =>
    obtain ⟨_, _, hc⟩ := obind_some.1 (ofO_ne hc (by simp))
    split at hc
    · obtain ⟨_, _, hc⟩ := obind_some.1 hc
      obtain ⟨_, hc⟩ := oif_some.1 hc
      obtain ⟨_, _, hc⟩ := obind_some.1 hc
      obtain ⟨_, _, hc⟩ := obind_some.1 hc
      obtain ⟨_, hc⟩ := oif_some.1 hc
      cases hc
    · cases hc
  case binOp op t x y yt =>
    obtain ⟨fs, hf, hc⟩ := obind_some.1 (ofO_ne hc (by simp))
    have hc' : binC T op t fs = .call xs g := Option.some.inj hc
    unfold binC at hc'
    split at hc' <;> (try split at hc') <;> (try split at hc') <;> cases hc'
  case move x =>
    obtain ⟨_, _, hc⟩ := obind_some.1 (ofO_ne hc (by simp))
    cases hc
  case assign x =>
    obtain ⟨_, _, hc⟩ := obind_some.1 (ofO_ne hc (by simp))
    cases hc
  case pick c x y =>
    obtain ⟨_, _, hc⟩ := obind_some.1 (ofO_ne hc (by simp))
    cases hc
  case alloc t =>
    obtain ⟨_, _, hc⟩ := obind_some.1 (ofO_ne hc (by simp))
    cases hc
  case box t x =>
    obtain ⟨_, _, hc⟩ := obind_some.1 (ofO_ne hc (by simp))
    cases hc
  case nilCheck x =>
    obtain ⟨_, _, hc⟩ := obind_some.1 (ofO_ne hc (by simp))
    cases hc
  case extract x i =>
    obtain ⟨_, _, hc⟩ := obind_some.1 (ofO_ne hc (by simp))
    cases hc
  case store t a v =>
    obtain ⟨_, _, hc⟩ := obind_some.1 (ofO_ne hc (by simp))
    obtain ⟨_, _, hc⟩ := obind_some.1 hc
    cases hc
  case unOp op t x =>
    obtain ⟨_, _, hc⟩ := obind_some.1 (ofO_ne hc (by simp))
    cases op <;> cases hc
  case makeSlice t l c =>
    obtain ⟨_, _, hc⟩ := obind_some.1 (ofO_ne hc (by simp))
    obtain ⟨_, _, hc⟩ := obind_some.1 hc
    split at hc
    · obtain ⟨_, _, hc⟩ := obind_some.1 hc
      obtain ⟨_, _, hc⟩ := obind_some.1 hc
      obtain ⟨_, hc⟩ := oif_some.1 hc
      cases hc
    · cases hc
  case slice t x lo hi mx =>
    obtain ⟨_, _, hc⟩ := obind_some.1 (ofO_ne hc (by simp))
    obtain ⟨_, _, hc⟩ := obind_some.1 hc
    split at hc
    · cases hc
    · obtain ⟨_, _, hc⟩ := obind_some.1 hc
      cases hc
    · obtain ⟨_, _, hc⟩ := obind_some.1 hc
      cases hc
    · cases hc
  case fieldAddr s x f =>
    obtain ⟨_, _, hc⟩ := obind_some.1 (ofO_ne hc (by simp))
    obtain ⟨_, _, hc⟩ := obind_some.1 hc
    split at hc
    · obtain ⟨_, _, hc⟩ := obind_some.1 hc
      obtain ⟨_, _, hc⟩ := obind_some.1 hc
      obtain ⟨_, hc⟩ := oif_some.1 hc
      cases hc
    · cases hc
  case field s x f =>
    obtain ⟨_, _, hc⟩ := obind_some.1 (ofO_ne hc (by simp))
    obtain ⟨_, _, hc⟩ := obind_some.1 hc
    split at hc
    · obtain ⟨_, _, hc⟩ := obind_some.1 hc
      obtain ⟨_, _, hc⟩ := obind_some.1 hc
      obtain ⟨_, _, hc⟩ := obind_some.1 hc
      cases hc
    · cases hc
  case indexAddr t x i =>
    obtain ⟨_, _, hc⟩ := obind_some.1 (ofO_ne hc (by simp))
    obtain ⟨_, _, hc⟩ := obind_some.1 hc
    split at hc
    · obtain ⟨_, _, hc⟩ := obind_some.1 hc
      cases hc
    · obtain ⟨_, _, hc⟩ := obind_some.1 hc
      cases hc
    · cases hc
  case index t x i =>
    obtain ⟨_, _, hc⟩ := obind_some.1 (ofO_ne hc (by simp))
    obtain ⟨_, _, hc⟩ := obind_some.1 hc
    split at hc
    · cases hc
    · obtain ⟨_, _, hc⟩ := obind_some.1 hc
      obtain ⟨_, _, hc⟩ := obind_some.1 hc
      cases hc
    · cases hc
  case load t a =>
    obtain ⟨_, _, hc⟩ := obind_some.1 (ofO_ne hc (by simp))
    obtain ⟨_, _, hc⟩ := obind_some.1 hc
    obtain ⟨_, _, hc⟩ := obind_some.1 hc
    cases hc
  case convert s d x =>
    obtain ⟨f, hf, hc⟩ := obind_some.1 (ofO_ne hc (by simp))
    have hc' : convC T s d [f] = .call xs g := Option.some.inj hc
    unfold convC at hc'
    split at hc' <;> first | (cases hc'; done) | (split at hc' <;> cases hc')
end
end Go.Ev
