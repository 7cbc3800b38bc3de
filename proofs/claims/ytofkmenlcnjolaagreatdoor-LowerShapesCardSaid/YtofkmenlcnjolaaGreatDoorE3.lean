/- The abstract evaluator of the model: texts Ra S T U V W. -/
import Derived.Test.YtofkmenlcnjolaaGreatDoorE2
/- The abstract evaluator, part Ra: maps read. -/
namespace Go.Ev
section
variable {P : Program} {φ : Phi} {ρ : Operand → Value} {T : Ty} {N : Fns} {F : Fr} {H : Heap} {w : World}

theorem keyEq_some {kt : TypeId} {f : V → V → Option Bool} (h : keyEq T kt = some f) : ∃ d, T.und kt = some d ∧ ((isFlat d = true ∧ f = cellEq d) ∨ (isFlat d = false ∧ ∃ ds, aggKinds T kt = some ds ∧
    f = fun a b => match a with | .agg x => (match b with | .agg y => cellsEq ds x y | _ => Option.none) | _ => Option.none)) := by
  obtain ⟨d, hd, h⟩ := obind_some.1 (show obind (T.und kt) _ = some f from h)
  refine ⟨d, hd, ?_⟩
  cases hf : isFlat d with
  | true => rw [hf] at h; cases h; exact .inl ⟨rfl, rfl⟩
  | false =>
    rw [hf] at h
    obtain ⟨ds, h1, h⟩ := obind_some.1 h
    cases h
    exact .inr ⟨rfl, ds, h1, rfl⟩
theorem keyAgg {ds : List TypeDesc} {a b : V} {r : Bool} (h : (match a with | .agg x => (match b with | .agg y => cellsEq ds x y | _ => Option.none) | _ => Option.none) = some r) : ∃ x y, a = .agg x ∧ b = .agg y ∧ cellsEq ds x y = some r := by
  cases a <;> first | (cases h; done) | skip
  cases b <;> first | (cases h; done) | skip
  exact ⟨_, _, rfl, rfl, h⟩
theorem Rv.agg_inv {x : List V} {v : Value} (h : Rv φ (.agg x) v) : ∃ x', v = .agg ⟨x'⟩ ∧ Rvs φ x x' := by
  cases h with
  | agg h => exact ⟨_, rfl, h⟩

theorem key_run (hT : TOk P T) {kt : TypeId} {f : V → V → Option Bool} (hf : keyEq T kt = some f) {a b : V} {a' b' : Value} (ha : Rv φ a a') (hb : Rv φ b b') {r : Bool} (h : f a b = some r) (w : World) : (Op.equal kt a' b').run P w = .ok r w := by
  obtain ⟨d, hd, ⟨h1, rfl⟩ | ⟨h1, ds, h2, rfl⟩⟩ := keyEq_some hf
  · exact cellEq_run hT hd ha hb h 9999 w
  · obtain ⟨x, y, rfl, rfl, h3⟩ := keyAgg h
    obtain ⟨x', rfl, hx⟩ := ha.agg_inv
    obtain ⟨y', rfl, hy⟩ := hb.agg_inv
    exact aggEq_run hT h2 hx hy h3 w
theorem same_flat {d : TypeDesc} {a b : V} {a' b' : Value} (ha : Rv φ a a') (hb : Rv φ b b') {r : Bool} (h : cellEq d a b = some r) : Instr.sameNow d a' b' = some r := by
  cases d <;> first | (cases h; done) | skip
  case bool =>
    cases ha <;> first | (cases h; done) | skip
    cases hb <;> first | (cases h; done) | skip
    rename_i x y
    cases h
    cases x <;> cases y <;> rfl
  case int =>
    cases ha <;> first | (cases h; done) | skip
    cases hb <;> first | (cases h; done) | skip
    rename_i k x k' y
    obtain ⟨h1, h⟩ := oif_some.1 (show oif (keq k k') (some (ieq x y)) = some r from h)
    cases h
    rw [keq_eq] at h1
    have h1' : k = k' := by simpa using h1
    simp only [Instr.sameNow, h1', if_true, ieq_eq]
    rfl
  case string =>
    cases ha <;> first | (cases h; done) | skip
    cases hb <;> first | (cases h; done) | skip
    cases h
    simp only [Instr.sameNow]
    rw [lall2_ueq, beq_toListBytes, ByteArray.toList_eq, ByteArray.toList_eq]
theorem same_agg {d : TypeDesc} (h : isFlat d = false) (a b : Value) : Instr.sameNow d a b = none := by
  cases d <;> first | (cases h; done) | skip
  all_goals cases a <;> cases b <;> rfl

/-- entries from place i on -/
def EntsOk (φ : Phi) (i : Nat) : List (V × V) → List MapEntry → Prop
  | [], [] => True
  | (k, v) :: es, e :: es' => Rv φ k e.key ∧ Rv φ v e.val ∧ e.born = i ∧ EntsOk φ (i + 1) es es'
  | _, _ => False
theorem entsOk_iff {es : List (V × V)} {es' : List MapEntry} : ∀ {i : Nat}, EntsOk φ i es es' ↔ es'.length = es.length ∧ ∀ j k v, es[j]? = some (k, v) → ∃ e : MapEntry, es'[j]? = some e ∧ Rv φ k e.key ∧ Rv φ v e.val ∧ e.born = i + j := by
  induction es generalizing es' with
  | nil =>
    intro i
    cases es' with
    | nil => simp [EntsOk]
    | cons => simp [EntsOk]
  | cons x es ih =>
    intro i
    obtain ⟨k, v⟩ := x
    cases es' with
    | nil => simp [EntsOk]
    | cons e es' =>
      simp only [EntsOk, ih, List.length_cons]
      constructor
      · rintro ⟨h1, h2, h3, h4, h5⟩
        refine ⟨by omega, ?_⟩
        intro j k' v' hj
        cases j with
        | zero =>
          simp at hj
          obtain ⟨rfl, rfl⟩ := hj
          exact ⟨e, by simp, h1, h2, by omega⟩
        | succ j =>
          obtain ⟨e', g1, g2, g3, g4⟩ := h5 j k' v' (by simpa using hj)
          exact ⟨e', by simpa using g1, g2, g3, by omega⟩
      · rintro ⟨h1, h2⟩
        obtain ⟨e0, g1, g2, g3, g4⟩ := h2 0 k v (by simp)
        simp at g1
        subst g1
        refine ⟨g2, g3, by omega, by omega, ?_⟩
        intro j k' v' hj
        obtain ⟨e', f1, f2, f3, f4⟩ := h2 (j + 1) k' v' (by simpa using hj)
        exact ⟨e', by simpa using f1, f2, f3, by omega⟩
theorem mapOk_ents {es : List (V × V)} {es' : List MapEntry} : MapOk φ es es' ↔ EntsOk φ 0 es es' := by
  rw [entsOk_iff]
  simp [MapOk]

theorem mfind_cons {f : V → V → Option Bool} {k : V} {e : V × V} {es : List (V × V)} {i : Nat} {r : Option (Nat × V)} (h : mfind f k (e :: es) i = some r) :
    ∃ b, f k e.1 = some b ∧ ((b = true ∧ r = some (i, e.2)) ∨ (b = false ∧ mfind f k es (i + 1) = some r)) := by
  obtain ⟨b, h1, h⟩ := obind_some.1 (show obind (f k e.1) (fun r => Bool.casesOn (motive := fun _ => Option (Option (Nat × V))) r (mfind f k es (i + 1)) (some (some (i, e.2)))) = some r from h)
  cases b with
  | true => cases h; exact ⟨true, h1, .inl ⟨rfl, rfl⟩⟩
  | false => exact ⟨false, h1, .inr ⟨rfl, h⟩⟩
/-- what a search finds -/
def FoundOk (φ : Phi) : Option (Nat × V) → Option (Nat × Value) → Prop
  | none, none => True
  | some (i, v), some (j, v') => i = j ∧ Rv φ v v'
  | _, _ => False
theorem findNow_run {d : TypeDesc} {k : V} {k' : Value} (hk : Rv φ k k') : ∀ {es : List (V × V)} {es' : List MapEntry} {i : Nat} {r : Option (Nat × V)}, EntsOk φ i es es' → mfind (cellEq d) k es i = some r →
    ∃ r', Instr.findNow d k' es' i = some r' ∧ FoundOk φ r r' := by
  intro es
  induction es with
  | nil =>
    intro es' i r he h
    cases es' with
    | nil => cases h; exact ⟨none, rfl, trivial⟩
    | cons => exact he.elim
  | cons x es ih =>
    intro es' i r he h
    obtain ⟨ke, v⟩ := x
    cases es' with
    | nil => exact he.elim
    | cons e es' =>
      obtain ⟨h1, h2, h3, h4⟩ := he
      obtain ⟨b, hb, ⟨rfl, rfl⟩ | ⟨rfl, hr⟩⟩ := mfind_cons h
      · exact ⟨some (i, e.val), by simp [Instr.findNow, same_flat hk h1 hb], rfl, h2⟩
      · obtain ⟨r', g1, g2⟩ := ih h4 hr
        exact ⟨r', by simp [Instr.findNow, same_flat hk h1 hb, g1], g2⟩
theorem findAsking_run (hT : TOk P T) {kt : TypeId} {f : V → V → Option Bool} (hf : keyEq T kt = some f) {k : V} {k' : Value} (hk : Rv φ k k') (w : World) : ∀ {es : List (V × V)} {es' : List MapEntry} {i : Nat} {r : Option (Nat × V)}, EntsOk φ i es es' → mfind f k es i = some r →
    ∃ r', (Instr.findAsking kt k' es' i).run P w = .ok r' w ∧ FoundOk φ r r' := by
  intro es
  induction es with
  | nil =>
    intro es' i r he h
    cases es' with
    | nil => cases h; exact ⟨none, rfl, trivial⟩
    | cons => exact he.elim
  | cons x es ih =>
    intro es' i r he h
    obtain ⟨ke, v⟩ := x
    cases es' with
    | nil => exact he.elim
    | cons e es' =>
      obtain ⟨h1, h2, h3, h4⟩ := he
      obtain ⟨b, hb, ⟨rfl, rfl⟩ | ⟨rfl, hr⟩⟩ := mfind_cons h
      · exact ⟨some (i, e.val), by simp [Instr.findAsking, key_run hT hf hk h1 hb], rfl, h2⟩
      · obtain ⟨r', g1, g2⟩ := ih h4 hr
        exact ⟨r', by simp [Instr.findAsking, key_run hT hf hk h1 hb, g1], g2⟩
theorem findKey_run (hT : TOk P T) {kt : TypeId} {f : V → V → Option Bool} (hf : keyEq T kt = some f) {k : V} {k' : Value} (hk : Rv φ k k') {es : List (V × V)} {es' : List MapEntry} {r : Option (Nat × V)} (he : MapOk φ es es') (h : mfind f k es 0 = some r) (w : World) :
    ∃ r', (Instr.findKey kt k' es').run P w = .ok r' w ∧ FoundOk φ r r' := by
  have he' := mapOk_ents.1 he
  obtain ⟨d, hd, ⟨h1, rfl⟩ | ⟨h1, ds, h2, hfe⟩⟩ := keyEq_some hf
  · obtain ⟨r', g1, g2⟩ := findNow_run hk he' h
    exact ⟨r', by simp [Instr.findKey, run_underlying (hT.und hd), g1], g2⟩
  · cases es' with
    | nil =>
      cases es with
      | nil => cases h; exact ⟨none, by simp [Instr.findKey, run_underlying (hT.und hd), Instr.findNow], trivial⟩
      | cons x es => obtain ⟨a, b⟩ := x; exact he'.elim
    | cons e es' =>
      obtain ⟨r', g1, g2⟩ := findAsking_run hT hf hk w he' h
      exact ⟨r', by simp [Instr.findKey, run_underlying (hT.und hd), Instr.findNow, same_agg h1, g1], g2⟩

theorem check_flat (hT : TOk P T) {t : TypeId} {d : TypeDesc} (hd : T.und t = some d) (hf : isFlat d = true) (emp : Bool) (n : Nat) (v : Value) (w : World) : (Instr.checkKey emp (n + 1) t v).run P w = .ok () w := by
  have hu := run_underlying (hT.und hd) w
  cases d <;> first | (cases hf; done) | (simp only [Instr.checkKey, Sem.run_bind, hu, Result.andThen_ok]; rfl)
theorem check_fields (hT : TOk P T) (emp : Bool) (n : Nat) (xs' : List Value) (w : World) : ∀ (fs : List Field) (i : Nat) (ds : List TypeDesc) (xs : List V) (r : Bool), fldKinds T fs i = some ds → Rvs φ xs (xs'.drop i) → cellsEq ds xs xs = some r →
    (forIn fs PUnit.unit (fun f _ => do
          if f.name ≠ "_" then do
            Instr.checkKey emp (n + 1) f.type (← part f.type ⟨xs'⟩ f.offset)
            pure (ForInStep.yield PUnit.unit)
          else pure (ForInStep.yield PUnit.unit)) : Sem PUnit).run P w = .ok () w := by
  intro fs
  induction fs with
  | nil => intro i ds xs r _ _ _; simp
  | cons f fs ih =>
    intro i ds xs r hk hx h
    obtain ⟨d, q, h1, h2, h3, h4, h5, rfl⟩ := fldKinds_cons hk
    obtain ⟨x, xs, y, ys, a, b, rfl, he, e1, e2, rfl⟩ := cellsEq_cons h
    cases he
    obtain ⟨x', xr, hxe, hx1, hx2⟩ := hx.cons_inv
    obtain ⟨gx, dx⟩ := drop_cons_get hxe
    subst h2
    have ihh := ih (f.offset + 1) q xs b h5 (by rw [dx]; exact hx2) e2
    have p1 := part_flat hT h3 h4 (cs := ⟨xs'⟩) (i := f.offset) (v := x') (by simpa using gx) w
    have p3 := check_flat hT h3 h4 emp n x' w
    rw [List.forIn_cons]
    simp only [ne_eq, h1, not_false_eq_true, if_true, Sem.run_bind, p1, p3, Result.andThen_ok, Sem.run_pure] at ihh ⊢
    exact ihh
theorem check_items (hT : TOk P T) {e : TypeId} {d : TypeDesc} (hd : T.und e = some d) (hf : isFlat d = true) (emp : Bool) (n : Nat) (xs' : List Value) (w : World) (hs : (sizeOf e).run P w = .ok 1 w) : ∀ (len i : Nat) (xs : List V) (r : Bool), Rvs φ xs (xs'.drop i) → cellsEq (rep1 d len) xs xs = some r →
    (forIn (List.range' i len) PUnit.unit (fun j _ => do
          Instr.checkKey emp (n + 1) e (← part e ⟨xs'⟩ (j * (← sizeOf e)))
          pure (ForInStep.yield PUnit.unit)) : Sem PUnit).run P w = .ok () w := by
  intro len
  induction len with
  | zero => intro i xs r _ _; simp
  | succ len ih =>
    intro i xs r hx h
    obtain ⟨x, xs, y, ys, a, b, rfl, he, e1, e2, rfl⟩ := cellsEq_cons (show cellsEq (d :: rep1 d len) xs xs = some r from h)
    cases he
    obtain ⟨x', xr, hxe, hx1, hx2⟩ := hx.cons_inv
    obtain ⟨gx, dx⟩ := drop_cons_get hxe
    have ihh := ih (i + 1) xs b (by rw [dx]; exact hx2) e2
    have p1 := part_flat hT hd hf (cs := ⟨xs'⟩) (i := i * 1) (v := x') (by simpa using gx) w
    have p3 := check_flat hT hd hf emp n x' w
    rw [List.range'_succ, List.forIn_cons]
    simp only [Sem.run_bind, hs, p1, p3, Result.andThen_ok, Sem.run_pure] at ihh ⊢
    exact ihh
theorem check_run (hT : TOk P T) {kt : TypeId} {f : V → V → Option Bool} (hf : keyEq T kt = some f) {k : V} {k' : Value} (hk : Rv φ k k') {b : Bool} (h : f k k = some b) (emp : Bool) (w : World) : (Instr.checkKey emp 10000 kt k').run P w = .ok () w := by
  obtain ⟨d, hd, ⟨h1, rfl⟩ | ⟨h1, ds, hks, rfl⟩⟩ := keyEq_some hf
  · exact check_flat hT hd h1 emp 9999 k' w
  · obtain ⟨x, y, rfl, he, h3⟩ := keyAgg h
    cases he
    obtain ⟨x', rfl, hx⟩ := hk.agg_inv
    obtain ⟨d', hd', hks⟩ := obind_some.1 (show obind (T.und kt) _ = some ds from hks)
    rw [hd] at hd'
    cases hd'
    have hu := hT.und hd
    cases d <;> first | (cases hks; done) | skip
    case struct fs =>
      obtain ⟨h4, hks⟩ := oif_some.1 (show oif (T.eqOk kt) (fldKinds T fs.toList 0) = some ds from hks)
      have := check_fields hT emp 9998 x' w fs.toList 0 ds x b hks hx h3
      rw [show (10000 : Nat) = 9998 + 1 + 1 from rfl]
      unfold Instr.checkKey
      simp only [Sem.run_bind, run_underlying hu, Result.andThen_ok]
      rw [← Array.forIn_toList]
      simp at this ⊢
      rw [this]
      rfl
    case array n e =>
      obtain ⟨d2, hd2, hks⟩ := obind_some.1 (show obind (T.und e) _ = some ds from hks)
      obtain ⟨h4, hks⟩ := oif_some.1 hks
      obtain ⟨i, h5, hks⟩ := obind_some.1 hks
      obtain ⟨h6, hks⟩ := oif_some.1 hks
      cases hks
      rw [beq_eq] at h6
      have hs : (sizeOf e).run P w = .ok 1 w := by
        have := run_info (hT.info e i h5) w
        simp [sizeOf, this, h6]
      have := check_items hT hd2 h4 emp 9998 x' w hs n 0 x b hx h3
      rw [show (10000 : Nat) = 9998 + 1 + 1 from rfl]
      unfold Instr.checkKey
      simp only [Sem.run_bind, run_underlying hu, Result.andThen_ok]
      simp at this ⊢
      rw [this]
      rfl

theorem map?_some {b : Nat} {es : List (V × V)} (h : H.map? b = some es) : H.get b = .oth (.map es) := by
  unfold Heap.map? at h
  cases hb : H.get b <;> rw [hb] at h <;> first | (cases h; done) | skip
  rename_i o
  cases o <;> cases h
  rfl
theorem map_ok (hr : Rel φ H w) {b : Nat} {l : Loc} (hb : φ b = some l) {es : List (V × V)} (h : H.map? b = some es) : ∃ es', w.heap[l.c]? = some (.map ⟨es'⟩ es.length) ∧ MapOk φ es es' := (hr.oth hb (map?_some h)).2
def isRow : Obj → Bool
  | .cells _ _ _ => true
  | _ => false
theorem run_getObj {c : Nat} {o : Obj} (h : w.heap[c]? = some o) (hc : isRow o = false) : (getObj c).run P w = .ok o w := by
  cases o <;> first | (cases hc; done) | simp [getObj, Sem.run, h]
section
variable {dst : Option Tmp} {ty : TypeId} {pos : String} {after : Array Edge} {guard : Option (Nat × Bool)}
theorem lookup_sound (hT : TOk P T) (hr : Rel φ H w) {t kt e : TypeId} {x y : Operand} {ok : Bool} (hd : T.und t = some (.map kt e)) {f : V → V → Option Bool} (hf : keyEq T kt = some f) {i : TypeInfo} (hi : T.info e = some i) {z' : Value} (hz : i.zero = some z') {z : V} (hzv : toV 20 z' = some z)
    {m k : V} (hm : Rv φ m (ρ x)) (hk : Rv φ k (ρ y)) {v : V} (h0 : lookupG f z ok [m, k] H = some v) : ∃ v', (execOp ρ ⟨dst, .lookup t x y ok, ty, pos, after, guard⟩).run P w = .ok (.value v') w ∧ Rv φ v v' := by
  obtain ⟨b, hb, h⟩ := obind_some.1 (show obind (f k k) _ = some v from h0)
  clear h0
  have hu := run_underlying (hT.und hd) w
  have hck := fun emp => check_run hT hf hk hb emp w
  have hzr := run_zero (hT.info e i hi) hz w
  have hzz := toV_sound φ _ _ _ hzv
  have hres : ∀ {v : V} {v' : Value} (b : Bool), Rv φ v v' → Rv φ (mapRes ok v b) (if ok then .tuple #[v', .bool b] else v') := by
    intro v v' b hv
    cases ok
    · exact hv
    · exact .tup (.cons hv (.cons (.bool b) .nil))
  generalize hx : ρ x = x' at hm
  cases hm <;> first | (cases h; done) | skip
  · rename_i mb l hmb
    obtain ⟨es, h1, h⟩ := obind_some.1 (show obind (H.map? mb) _ = some v from h)
    obtain ⟨r, h2, h⟩ := obind_some.1 h
    obtain ⟨es', g1, g2⟩ := map_ok hr hmb h1
    obtain ⟨r', g3, g4⟩ := findKey_run hT hf hk g2 h2 w
    have hgo := run_getObj (P := P) g1 rfl
    cases r with
    | none =>
      cases h
      cases r' with
      | none =>
        refine ⟨_, ?_, hres false hzz⟩
        simp only [execOp, Instr.lookup, hx, Sem.run_bind, hu, Result.andThen_ok, hgo, hck, g3, hzr, Sem.run_pure]
      | some q => exact g4.elim
    | some q =>
      obtain ⟨j, u⟩ := q
      cases h
      cases r' with
      | none => exact g4.elim
      | some q' =>
        obtain ⟨j', u'⟩ := q'
        refine ⟨_, ?_, hres true g4.2⟩
        simp only [execOp, Instr.lookup, hx, Sem.run_bind, hu, Result.andThen_ok, hgo, hck, g3, Sem.run_pure]
  · cases h
    refine ⟨_, ?_, hres false hzz⟩
    have g3 : (Instr.findKey kt (ρ y) []).run P w = .ok none w := by
      obtain ⟨d, hd2, _⟩ := keyEq_some hf
      simp [Instr.findKey, run_underlying (hT.und hd2), Instr.findNow]
    simp only [execOp, Instr.lookup, hx, Sem.run_bind, hu, Result.andThen_ok, hck, g3, hzr, Sem.run_pure]
theorem lenMap_sound (hT : TOk P T) (hr : Rel φ H w) {t kt e : TypeId} (hd : T.und t = some (.map kt e)) {ts : Array TypeId} (ht : ts[0]? = some t) {x : Operand} {m : V} (hm : Rv φ m (ρ x)) {v : V} (h : lenMapG [m] H = some v) :
    ∃ v', (execOp ρ ⟨dst, .call ⟨.builtin .len, #[x], ts⟩, ty, pos, after, guard⟩).run P w = .ok (.value v') w ∧ Rv φ v v' := by
  have hu := run_underlying (hT.und hd) w
  generalize hx : ρ x = x' at hm
  cases hm <;> first | (cases h; done) | skip
  · rename_i mb l hmb
    obtain ⟨es, h1, h⟩ := obind_some.1 (show obind (H.map? mb) _ = some v from h)
    cases h
    obtain ⟨es', g1, g2⟩ := map_ok hr hmb h1
    have hgo := run_getObj (P := P) g1 rfl
    refine ⟨_, ?_, .int .i64 _⟩
    simp [execOp, resolve, invoke, builtin, Builtin.len_, hx, ht, hu, hgo, goInt, llen_eq, g2.1]
  · cases h
    refine ⟨_, ?_, .int .i64 _⟩
    simp [execOp, resolve, invoke, builtin, Builtin.len_, hx, ht, hu, goInt]
theorem ents_find {es : List (V × V)} {es' : List MapEntry} : ∀ {i j : Nat} {e : V × V}, EntsOk φ i es es' → es[j]? = some e → ∃ x : MapEntry, es'.find? (fun x => x.born == i + j) = some x ∧ Rv φ e.1 x.key ∧ Rv φ e.2 x.val := by
  induction es generalizing es' with
  | nil => intro i j e _ h; simp at h
  | cons y es ih =>
    intro i j e he h
    obtain ⟨k, v⟩ := y
    cases es' with
    | nil => exact he.elim
    | cons x es' =>
      obtain ⟨h1, h2, h3, h4⟩ := he
      cases j with
      | zero =>
        simp at h
        subst h
        exact ⟨x, by simp [h3], h1, h2⟩
      | succ j =>
        obtain ⟨x', g1, g2, g3⟩ := ih h4 (by simpa using h)
        refine ⟨x', ?_, g2, g3⟩
        rw [List.find?_cons_of_neg (by simp [h3])]
        rw [← g1]
        congr 1
        funext q
        congr 1
        omega
theorem entry_sound (hr : Rel φ H w) {x : Operand} {m : V} (hm : Rv φ m (ρ x)) {v : V} (h : entryG [m] H = some v) :
    ∃ v', (execOp ρ ⟨dst, .entry x, ty, pos, after, guard⟩).run P w = .ok (.value v') w ∧ Rv φ v v' := by
  generalize hx : ρ x = x' at hm
  cases hm <;> first | (cases h; done) | skip
  rename_i b o l hb
  cases o with
  | succ o => cases h
  | zero =>
    have h' : (match H.get b with
      | .oth (.iter m _ _ cur last) => obind (H.map? m) fun es => oif (Nat.beq (llen es) last) <| obind cur fun i => obind (lget? es i) fun e => some (.tup [e.1, e.2])
      | _ => Option.none) = some v := h
    cases hg : H.get b <;> rw [hg] at h' <;> first | (cases h'; done) | skip
    rename_i ob
    cases ob <;> first | (cases h'; done) | skip
    rename_i mb since left cur last
    obtain ⟨es, h1, h'⟩ := obind_some.1 h'
    obtain ⟨h2, h'⟩ := oif_some.1 h'
    obtain ⟨i, h3, h'⟩ := obind_some.1 h'
    obtain ⟨e, h4, h'⟩ := obind_some.1 h'
    cases h'
    obtain ⟨hbase, lm, seen, g1, g2, _, gcur, _⟩ := hr.oth hb hg
    obtain ⟨es', g3, g4⟩ := map_ok hr g1 h1
    rw [beq_eq, llen_eq] at h2
    rw [← gcur] at h3
    rw [lget?_eq] at h4
    obtain ⟨x, f1, f2, f3⟩ := ents_find (mapOk_ents.1 g4) h4
    rw [Nat.zero_add] at f1
    have hgo1 := run_getObj (P := P) g2 rfl
    have hgo2 := run_getObj (P := P) g3 rfl
    refine ⟨.tuple #[x.key, x.val], ?_, .tup (.cons f2 (.cons f3 .nil))⟩
    have hba : (⟨seen⟩ : Array Nat).back? = some i := by rw [Array.back?_eq_getElem?]; simpa [List.getLast?_eq_getElem?] using h3
    simp only [execOp, Instr.entry, hx, hbase, Nat.add_zero, Sem.run_bind, hgo1, Result.andThen_ok, hba, hgo2, h2]
    have hf : (⟨es'⟩ : Array MapEntry).find? (fun x => x.born == i) = some x := by simpa using f1
    simp [hf]
end
end
end Go.Ev
/- The abstract evaluator, part S: reading memory; storing. -/
namespace Go.Ev

theorem Heap.get_set (H : Heap) (a b : Nat) (o : AObj) : (H.set a o).get b = if a = b then o else H.get b := Tr.get_set AObj.none H.m a b o
theorem Heap.get_push (H : Heap) (b : Nat) (o : AObj) : (H.push o).get b = if H.next = b then o else H.get b := Tr.get_set AObj.none H.m H.next b o
theorem lives_iff {H : Heap} {b g : Nat} : H.lives b g = true ↔ g = 0 ∨ ∃ leaf fl, H.get g = .grp leaf fl ∧ fl ≤ b := by
  cases g with
  | zero => exact ⟨fun _ => .inl rfl, fun _ => rfl⟩
  | succ g =>
    have e : H.lives b (g + 1) = AObj.casesOn (motive := fun _ => Bool) (H.get (g + 1)) false (fun _ _ => false) (fun _ fl => Nat.ble fl b) (fun _ => false) := rfl
    rw [e]
    cases h : H.get (g + 1) with
    | grp leaf fl => simp; exact ⟨fun h => ⟨_, _, ⟨rfl, rfl⟩, h⟩, fun ⟨_, _, ⟨_, e⟩, h⟩ => e ▸ h⟩
    | _ => simp
theorem cells?_some {H : Heap} {b : Nat} {cs : List V} (h : H.cells? b = some cs) : ∃ g, H.get b = .cells cs g ∧ H.lives b g = true := by
  unfold Heap.cells? at h
  cases hb : H.get b with
  | cells cs' g =>
    rw [hb] at h
    obtain ⟨h1, h2⟩ := oif_some.1 h
    cases h2
    exact ⟨g, rfl, h1⟩
  | _ => rw [hb] at h; cases h

section
variable {P : Program} {φ : Phi} {H : Heap} {w : World}

theorem load_ok (hr : Rel φ H w) {b o : Nat} {l : Loc} (hb : φ b = some l) {v : V} (h : H.load b o = some v) : ∃ v', w.cell? ⟨l.c, l.base + o, none⟩ = some v' ∧ Rv φ v v' := by
  obtain ⟨cs, hc, h⟩ := obind_some.1 h
  obtain ⟨g, h1, h2⟩ := cells?_some hc
  rw [lget?_eq] at h
  exact hr.cell hb h1 h2 h
theorem loadN_ok (hr : Rel φ H w) {b o n : Nat} {l : Loc} (hb : φ b = some l) {vs : List V} (h : H.loadN b o n = some vs) :
    ∃ vs', vs'.length = n ∧ Rvs φ vs vs' ∧ ∀ j v, vs'[j]? = some v → w.cell? ⟨l.c, l.base + o + j, none⟩ = some v := by
  obtain ⟨cs, hc, h⟩ := obind_some.1 h
  obtain ⟨g, h1, h2⟩ := cells?_some hc
  rw [ltake?_eq, ldrop_eq] at h
  split at h
  · rename_i hle
    cases h
    rw [List.length_drop] at hle
    have hcell : ∀ j, j < n → ∃ v v', cs[o + j]? = some v ∧ w.cell? ⟨l.c, l.base + o + j, none⟩ = some v' ∧ Rv φ v v' := by
      intro j hj
      have hlt : o + j < cs.length := by omega
      obtain ⟨v', e1, e2⟩ := hr.cell hb h1 h2 (i := o + j) (v := cs[o + j]) (by simp [hlt])
      exact ⟨_, v', by simp [hlt], by rw [← Nat.add_assoc] at e1; exact e1, e2⟩
    refine ⟨(List.range n).map fun j => (w.cell? ⟨l.c, l.base + o + j, none⟩).getD undef, by simp, ?_, ?_⟩
    · refine .of_get (by simp; omega) (fun i x hx => ?_)
      have hi : i < n := by
        have := (List.getElem?_eq_some_iff.1 hx).1
        simp at this
        omega
      obtain ⟨v, v', e1, e2, e3⟩ := hcell i hi
      have : x = v := by
        rw [List.getElem?_take_of_lt hi, List.getElem?_drop, e1] at hx
        exact (Option.some.inj hx).symm
      subst this
      exact ⟨v', by simp [hi, e2], e3⟩
    · intro j v hj
      have hjn : j < n := by
        have := (List.getElem?_eq_some_iff.1 hj).1
        simpa using this
      obtain ⟨u, u', e1, e2, e3⟩ := hcell j hjn
      simp [hjn, e2] at hj
      rw [e2, hj]
  · cases h

variable {ρ : Operand → Value} {T : Ty} {N : Fns} {F : Fr}
theorem run_loadCells_none {c o n : Nat} {vs' : List Value} (hl : vs'.length = n) (h : ∀ j v, vs'[j]? = some v → w.cell? ⟨c, o + j, none⟩ = some v) : (loadCells ⟨c, o, none⟩ n).run P w = .ok vs'.toArray w := by
  rw [← hl]
  exact run_loadCells_list w _ vs' (fun j v hj => by rw [add_none]; exact h j v hj)

theorem loadG_ok (hT : TOk P T) (hr : Rel φ H w) {t : TypeId} {g : Bool} {n : Nat} (hg : T.isAgg t = some g) (hn : sizeT T t = some n) {x : V} {x' : Value} (hx : Rv φ x x') {v : V} (h : loadG g n [x] H = some v) :
    ∃ a, x' = .pointer (some a) ∧ ∃ v', (loadVar t a).run P w = .ok v' w ∧ Rv φ v v' := by
  cases hx <;> first | (cases h; done) | skip
  rename_i b o l hb
  refine ⟨_, rfl, ?_⟩
  cases g with
  | false =>
    obtain ⟨v', h1, h2⟩ := load_ok hr hb (show H.load b o = some v from h)
    exact ⟨v', by simp [loadVar, run_isAggT hT hg, h1], h2⟩
  | true =>
    obtain ⟨cs, hc, h⟩ := obind_some.1 (show obind (H.loadN b o n) (fun cs => some (.agg cs)) = some v from h)
    cases h
    obtain ⟨vs', h1, h2, h3⟩ := loadN_ok hr hb hc
    refine ⟨.agg ⟨vs'⟩, ?_, .agg h2⟩
    simp only [loadVar, Sem.run_bind, run_isAggT hT hg, Result.andThen_ok, if_true, run_sizeT hT hn, run_loadCells_none h1 h3, Sem.run_pure]

theorem bytesOf_ok {cs : List V} {cs' : List Value} (h : Rvs φ cs cs') {s : List UInt8} (hs : bytesOf cs = some s) : cs' = s.map fun b => Value.int .u8 b.toNat := by
  induction cs generalizing cs' s with
  | nil => cases h; cases hs; rfl
  | cons v cs ih =>
    cases h with
    | cons h1 h2 =>
      cases h1 <;> first | (cases hs; done) | skip
      rename_i k n
      cases k <;> cases n <;> first | (cases hs; done) | skip
      rename_i n
      obtain ⟨hn, hs⟩ := oif_some.1 (show oif (Nat.ble (Nat.succ n) 256) (obind (bytesOf cs) fun r => some (UInt8.ofNat n :: r)) = some s from hs)
      obtain ⟨r, hr, hs⟩ := obind_some.1 hs
      cases hs
      rw [ble_le] at hn
      rw [ih h2 hr]
      simp
      omega

theorem rd_sound (hT : TOk P T) (hr : Rel φ H w) (o : Oper) {xs : List (Fr → V)} {g : List V → Heap → Option V} (hc : cop N T o.op = .rd xs g) (ho : OpRel φ F ρ o.op.operands.toList) {v : V} (h : g (vals xs F) H = some v) :
    ∃ v', (execOp ρ o).run P w = .ok (.value v') w ∧ Rv φ v v' := by
  obtain ⟨dst, op, ty, pos, after, guard⟩ := o
  simp only at hc ho
  cases op <;> simp only [cop, reduceCtorEq] at hc <;> simp only [Op.operands] at ho
  case load t a =>
    obtain ⟨f, hf, hc⟩ := obind_some.1 (ofO_ne hc (by simp))
    obtain ⟨g, hg, hc⟩ := obind_some.1 hc
    obtain ⟨n, hn, hc⟩ := obind_some.1 hc
    cases hc
    obtain ⟨ad, h1, v', h2, h3⟩ := loadG_ok hT hr hg hn (one_rel ho hf) (show loadG g n [f F] H = some v from h)
    exact ⟨v', by simp [execOp, Instr.loadAt, h1, Instr.sureAddr, h2], h3⟩
  case convert s d x =>
    obtain ⟨f, hf, hc⟩ := obind_some.1 (ofO_ne hc (by simp))
    have hc' : convC T s d [f] = .rd xs g := Option.some.inj hc
    unfold convC at hc'
    split at hc' <;> first | (cases hc'; done) | skip
    · split at hc' <;> cases hc'
    · rename_i e hs hd
      split at hc'
      · rename_i he
        cases hc'
        have h1 := one_rel ho hf
        have h' : toStrG [f F] H = some v := h
        generalize f F = u at h1 h'
        generalize hq : ρ x = x' at h1
        have hrun : ∀ {a : Option Addr} {len cap : Nat} {y : Value}, (convert s d (.slice a len cap)).run P w = .ok y w → x' = .slice a len cap → (execOp ρ ⟨dst, .convert s d x, ty, pos, after, guard⟩).run P w = .ok (.value y) w := by
          intro a len cap y h he
          simp only [execOp, hq, he]
          rw [Sem.run_bind, h]
          rfl
        cases h1 <;> first | (cases h'; done) | skip
        · rename_i b o len cap cap' l hb hle hcap
          obtain ⟨cs, hcs, h'⟩ := obind_some.1 (show obind (H.loadN b o len) _ = some v from h')
          obtain ⟨st, hst, h'⟩ := obind_some.1 h'
          cases h'
          obtain ⟨vs', e1, e2, e3⟩ := loadN_ok hr hb hcs
          have e4 := bytesOf_ok e2 hst
          subst e4
          have e5 : st.length = len := by simpa using e1
          subst e5
          refine ⟨_, hrun ?_ rfl, .str st⟩
          exact run_convert_bytes_back w s d e ⟨l.c, l.base + o, none⟩ cap' st (hT.und hs) (hT.und he) (hT.und hd) (fun j hj => by
            rw [add_none]
            exact e3 j _ (by simp [hj]))
        · cases h'
          refine ⟨_, hrun ?_ rfl, .str []⟩
          simp [convert, run_underlying (hT.und hs), run_underlying (hT.und hd), run_underlying (hT.und he), Conv.bytesToString]
          rfl
        · cases h'
          rename_i a cap'
          refine ⟨_, hrun (y := .string ⟨⟨[]⟩⟩) ?_ rfl, .str []⟩
          simp [convert, run_underlying (hT.und hs), run_underlying (hT.und hd), run_underlying (hT.und he), Conv.bytesToString, loadCells, loadCellsFrom]
          rfl
      · cases hc'
  case makeFunc fn a b =>
    cases fn <;> simp only [reduceCtorEq] at hc
    obtain ⟨_, _, hc⟩ := obind_some.1 (ofO_ne hc (by simp))
    cases hc
  case build t parts =>
    obtain ⟨_, _, hc⟩ := obind_some.1 (ofO_ne hc (by simp))
    obtain ⟨_, _, hc⟩ := obind_some.1 hc
    split at hc
    · obtain ⟨_, _, hc⟩ := obind_some.1 hc
      obtain ⟨_, _, hc⟩ := obind_some.1 hc
      cases hc
    · obtain ⟨_, _, hc⟩ := obind_some.1 hc
      obtain ⟨_, _, hc⟩ := obind_some.1 hc
      cases hc
    · cases hc
  case buildSlice t n parts =>
    obtain ⟨_, _, hc⟩ := obind_some.1 (ofO_ne hc (by simp))
    split at hc
    · obtain ⟨_, _, hc⟩ := obind_some.1 hc
      obtain ⟨_, hc⟩ := oif_some.1 hc
      obtain ⟨_, _, hc⟩ := obind_some.1 hc
      obtain ⟨_, _, hc⟩ := obind_some.1 hc
      obtain ⟨_, hc⟩ := oif_some.1 hc
      cases hc
    · cases hc
  case binOp op t x y yt =>
    obtain ⟨fs, hf, hc⟩ := obind_some.1 (ofO_ne hc (by simp))
    have hc' : binC T op t fs = .rd xs g := Option.some.inj hc
    unfold binC at hc'
    split at hc' <;> (try split at hc') <;> (try split at hc') <;> cases hc'
  case call c =>
    obtain ⟨callee, oargs, ts⟩ := c
    have hc1 := ofO_ne hc (by simp)
    clear hc
    cases callee with
    | value x =>
      cases x <;> simp only [] at hc1
      case func ff =>
        obtain ⟨fn, _, hc1⟩ := obind_some.1 hc1
        obtain ⟨_, _, hc1⟩ := obind_some.1 hc1
        cases hb : fn.body with
        | none =>
          rw [hb] at hc1
          obtain ⟨_, hc1⟩ := oif_some.1 hc1
          obtain ⟨_, _, hc1⟩ := obind_some.1 hc1
          cases hc1
        | some b => rw [hb] at hc1; cases hc1
      all_goals
        obtain ⟨_, _, hc1⟩ := obind_some.1 hc1
        cases hc1
    | invoke x m => cases hc1
    | builtin bi =>
      obtain ⟨fs, hfs, hc1⟩ := obind_some.1 hc1
      have hc2 := ofO_ne (Option.some.inj hc1) (by simp)
      clear hc1
      obtain ⟨t, ht, hc2⟩ := obind_some.1 hc2
      obtain ⟨d, hd, hc2⟩ := obind_some.1 hc2
      cases bi <;> simp only [reduceCtorEq] at hc2
      case len =>
        cases d <;> simp only [reduceCtorEq, Option.some.injEq, Cop.rd.injEq] at hc2
        obtain ⟨rfl, rfl⟩ := hc2
        have hoa : OpRel φ F ρ oargs.toList := fun y hy => ho y (by simp [Call.operands]; simpa using hy)
        have hv := opds_some hfs hoa
        generalize vals fs F = l at hv h
        obtain ⟨oa⟩ := oargs
        cases oa with
        | nil => cases hv; cases h
        | cons x oa =>
          cases oa with
          | nil =>
            cases hv with
            | cons h1 h2 =>
              cases h2
              exact lenMap_sound hT hr hd (lk ht) h1 h
          | cons y oa =>
            cases hv with
            | cons h1 h2 => cases h2 with
              | cons h2 h3 => exact absurd h (by unfold lenMapG; split <;> simp_all)
      case cap => split at hc2 <;> cases hc2
      case max => cases hc2
      case min => cases hc2
      case append =>
        split at hc2
        · obtain ⟨_, _, hc2⟩ := obind_some.1 hc2
          obtain ⟨z, _, hc2⟩ := obind_some.1 hc2
          obtain ⟨_, _, hc2⟩ := obind_some.1 hc2
          obtain ⟨_, hc2⟩ := oif_some.1 hc2
          obtain ⟨_, hc2⟩ := oif_some.1 hc2
          cases hc2
        · cases hc2
      case copy =>
        split at hc2
        · obtain ⟨_, _, hc2⟩ := obind_some.1 hc2
          cases hc2
        · cases hc2
  case makeMap t q => cases q <;> cases hc
  case lookup t x i ok =>
    obtain ⟨fs, hfs, hc⟩ := obind_some.1 (ofO_ne hc (by simp))
    obtain ⟨d, hd, hc⟩ := obind_some.1 hc
    cases d <;> simp only [reduceCtorEq] at hc
    obtain ⟨f, hf, hc⟩ := obind_some.1 hc
    obtain ⟨inf, hi, hc⟩ := obind_some.1 hc
    obtain ⟨z, hz, hc⟩ := obind_some.1 hc
    obtain ⟨zv, hzv, hc⟩ := obind_some.1 hc
    cases hc
    obtain ⟨a, b, hv, h1, h2⟩ := two_rel ho hfs
    rw [hv] at h
    exact lookup_sound hT hr hd hf hi hz hzv h1 h2 h
  case mapUpdate t m k v =>
    obtain ⟨_, _, hc⟩ := obind_some.1 (ofO_ne hc (by simp))
    obtain ⟨d, _, hc⟩ := obind_some.1 hc
    cases d <;> simp only [reduceCtorEq] at hc
    obtain ⟨_, _, hc⟩ := obind_some.1 hc
    cases hc
  case insert t m k v =>
    obtain ⟨_, _, hc⟩ := obind_some.1 (ofO_ne hc (by simp))
    obtain ⟨d, _, hc⟩ := obind_some.1 hc
    cases d <;> simp only [reduceCtorEq] at hc
    obtain ⟨_, _, hc⟩ := obind_some.1 hc
    cases hc
  case range t x =>
    obtain ⟨_, _, hc⟩ := obind_some.1 (ofO_ne hc (by simp))
    obtain ⟨d, _, hc⟩ := obind_some.1 hc
    cases d <;> simp only [reduceCtorEq] at hc <;> cases hc
  case next x isS =>
    obtain ⟨_, _, hc⟩ := obind_some.1 (ofO_ne hc (by simp))
    cases isS <;> cases hc
  case entry x =>
    obtain ⟨f, hf, hc⟩ := obind_some.1 (ofO_ne hc (by simp))
    cases hc
    exact entry_sound hr (one_rel ho hf) h
  case move x =>
    obtain ⟨_, _, hc⟩ := obind_some.1 (ofO_ne hc (by simp))
    cases hc
  case assign x =>
    obtain ⟨_, _, hc⟩ := obind_some.1 (ofO_ne hc (by simp))
    cases hc
  case pick c x y =>
    obtain ⟨_, _, hc⟩ := obind_some.1 (ofO_ne hc (by simp))
    cases hc
  case alloc t =>
    obtain ⟨_, _, hc⟩ := obind_some.1 (ofO_ne hc (by simp))
    cases hc
  case box t x =>
    obtain ⟨_, _, hc⟩ := obind_some.1 (ofO_ne hc (by simp))
    cases hc
  case nilCheck x =>
    obtain ⟨_, _, hc⟩ := obind_some.1 (ofO_ne hc (by simp))
    cases hc
  case extract x i =>
    obtain ⟨_, _, hc⟩ := obind_some.1 (ofO_ne hc (by simp))
    cases hc
  case store t a v =>
    obtain ⟨_, _, hc⟩ := obind_some.1 (ofO_ne hc (by simp))
    obtain ⟨_, _, hc⟩ := obind_some.1 hc
    cases hc
  case unOp op t x =>
    obtain ⟨_, _, hc⟩ := obind_some.1 (ofO_ne hc (by simp))
    cases op <;> cases hc
  case makeSlice t l c =>
    obtain ⟨_, _, hc⟩ := obind_some.1 (ofO_ne hc (by simp))
    obtain ⟨_, _, hc⟩ := obind_some.1 hc
    split at hc
    · obtain ⟨_, _, hc⟩ := obind_some.1 hc
      obtain ⟨_, _, hc⟩ := obind_some.1 hc
      obtain ⟨_, hc⟩ := oif_some.1 hc
      cases hc
    · cases hc
  case slice t x lo hi mx =>
    obtain ⟨_, _, hc⟩ := obind_some.1 (ofO_ne hc (by simp))
    obtain ⟨_, _, hc⟩ := obind_some.1 hc
    split at hc
    · cases hc
    · obtain ⟨_, _, hc⟩ := obind_some.1 hc
      cases hc
    · obtain ⟨_, _, hc⟩ := obind_some.1 hc
      cases hc
    · cases hc
  case fieldAddr s x f =>
    obtain ⟨_, _, hc⟩ := obind_some.1 (ofO_ne hc (by simp))
    obtain ⟨_, _, hc⟩ := obind_some.1 hc
    split at hc
    · obtain ⟨_, _, hc⟩ := obind_some.1 hc
      obtain ⟨_, _, hc⟩ := obind_some.1 hc
      obtain ⟨_, hc⟩ := oif_some.1 hc
      cases hc
    · cases hc
  case field s x f =>
    obtain ⟨_, _, hc⟩ := obind_some.1 (ofO_ne hc (by simp))
    obtain ⟨_, _, hc⟩ := obind_some.1 hc
    split at hc
    · obtain ⟨_, _, hc⟩ := obind_some.1 hc
      obtain ⟨_, _, hc⟩ := obind_some.1 hc
      obtain ⟨_, _, hc⟩ := obind_some.1 hc
      cases hc
    · cases hc
  case indexAddr t x i =>
    obtain ⟨_, _, hc⟩ := obind_some.1 (ofO_ne hc (by simp))
    obtain ⟨_, _, hc⟩ := obind_some.1 hc
    split at hc
    · obtain ⟨_, _, hc⟩ := obind_some.1 hc
      cases hc
    · obtain ⟨_, _, hc⟩ := obind_some.1 hc
      cases hc
    · cases hc
  case index t x i =>
    obtain ⟨_, _, hc⟩ := obind_some.1 (ofO_ne hc (by simp))
    obtain ⟨_, _, hc⟩ := obind_some.1 hc
    split at hc
    · cases hc
    · obtain ⟨_, _, hc⟩ := obind_some.1 hc
      obtain ⟨_, _, hc⟩ := obind_some.1 hc
      cases hc
    · cases hc
end
end Go.Ev
/- The abstract evaluator, part T: stores. -/
namespace Go.Ev
section
variable {P : Program} {φ : Phi} {H : Heap} {w : World}

theorem one_ok {v : V} {v' : Value} (h : Rv φ v v') (ho : v.one = true) : v'.oneCell' = true := by
  cases h <;> first | rfl | assumption | cases ho
theorem allOne_ok {vs : List V} {vs' : List Value} (h : Rvs φ vs vs') (ho : allOne vs = true) : ∀ v ∈ vs', v.oneCell' = true := by
  induction vs generalizing vs' with
  | nil => cases h; simp
  | cons v vs ih =>
    cases h with
    | cons h1 h2 =>
      have ho' : and v.one (allOne vs) = true := ho
      rw [Bool.and_eq_true] at ho'
      intro x hx
      rcases List.mem_cons.1 hx with rfl | hx
      · exact one_ok h1 ho'.1
      · exact ih h2 ho'.2 x hx

/-- what a store makes of the heap -/
theorem storeN_some {b o : Nat} {vs : List V} {H' : Heap} (h : H.storeN b o vs = some H') :
    ∃ cs g, H.get b = .cells cs g ∧ allOne vs = true ∧ o + vs.length ≤ cs.length ∧ H'.next = H.next ∧
      (g = 0 ∨ ∃ fl, H.get g = .grp b fl) ∧
      ∀ x, H'.get x = if b = x then .cells (cs.take o ++ vs ++ cs.drop (o + vs.length)) g else if g = x ∧ g ≠ 0 then .grp b b else H.get x := by
  unfold Heap.storeN at h
  cases hb : H.get b with
  | cells cs g =>
    rw [hb] at h
    obtain ⟨h1, h⟩ := oif_some.1 h
    obtain ⟨cs', h2, h⟩ := obind_some.1 h
    rw [lsplice_eq] at h2
    split at h2
    · rename_i hle
      cases h2
      cases g with
      | zero =>
        cases h
        refine ⟨cs, 0, rfl, h1, hle, rfl, .inl rfl, fun x => ?_⟩
        rw [Heap.get_set]
        simp
      | succ g =>
        have h' : AObj.casesOn (motive := fun _ => Option Heap) (H.get (g + 1)) Option.none (fun _ _ => Option.none)
          (fun leaf _ => oif (Nat.beq leaf b) (some ((H.set b (.cells (cs.take o ++ vs ++ cs.drop (o + vs.length)) (g + 1))).set (g + 1) (.grp b b)))) (fun _ => Option.none) = some H' := h
        cases hg : H.get (g + 1) with
        | grp leaf fl =>
          rw [hg] at h'
          obtain ⟨h3, h'⟩ := oif_some.1 h'
          rw [beq_eq] at h3
          subst h3
          cases h'
          refine ⟨cs, g + 1, rfl, h1, hle, rfl, .inr ⟨fl, hg⟩, fun x => ?_⟩
          rw [Heap.get_set, Heap.get_set]
          by_cases e1 : g + 1 = x
          · subst e1
            have : leaf ≠ g + 1 := by intro e; rw [e, hg] at hb; cases hb
            simp [this]
          · by_cases e2 : leaf = x
            · simp [e2]; intro e; exact absurd e e1
            · simp [e1, e2]
        | _ => rw [hg] at h'; cases h'
    · cases h2
  | _ => rw [hb] at h; cases h

theorem splice_get {α : Type} (cs vs : List α) (o i : Nat) (h : o + vs.length ≤ cs.length) :
    (cs.take o ++ vs ++ cs.drop (o + vs.length))[i]? = if o ≤ i ∧ i < o + vs.length then vs[i - o]? else cs[i]? := by
  by_cases h1 : i < o
  · rw [List.append_assoc, List.getElem?_append_left (by simp; omega), List.getElem?_take_of_lt h1, if_neg (by omega)]
  · by_cases h2 : i < o + vs.length
    · rw [List.append_assoc, List.getElem?_append_right (by simp; omega), List.getElem?_append_left (by simp; omega), if_pos (by omega)]
      congr 1
      simp; omega
    · rw [List.getElem?_append_right (by simp; omega), if_neg (by omega), List.getElem?_drop]
      congr 1
      simp; omega

theorem size_setCells (b : Nat) : ∀ (vs : List Value) (o : Nat) (w : World), (w.setCells b o vs).heap.size = w.heap.size
  | [], _, _ => rfl
  | v :: r, o, w => by
    show ((w.setCell ⟨b, o, none⟩ v).setCells b (o + 1) r).heap.size = _
    rw [size_setCells b r]
    simp [World.setCell]
theorem far_setCells (b c : Nat) (h : b ≠ c) : ∀ (vs : List Value) (o : Nat) (w : World), (w.setCells b o vs).heap[c]? = w.heap[c]?
  | [], _, _ => rfl
  | v :: r, o, w => by
    show ((w.setCell ⟨b, o, none⟩ v).setCells b (o + 1) r).heap[c]? = _
    rw [far_setCells b c h r]
    simp [World.setCell, Array.getElem?_modify, h]
theorem same_setCell (w : World) (b o : Nat) (v : Value) : Same w (w.setCell ⟨b, o, none⟩ v) := ⟨rfl, rfl, rfl, fun {c i} h => by
  obtain ⟨⟨u, hu⟩, hf⟩ := h
  refine ⟨?_, by rw [World.frozen?_setCell]; exact hf⟩
  by_cases e : (⟨b, o, none⟩ : Addr) = ⟨c, i, none⟩
  · rw [← e] at hu ⊢
    exact ⟨v, World.cell?_setCell_same _ _ _ hu⟩
  · exact ⟨u, by
      have := World.cell?_setCells_out b [v] o w ⟨c, i, none⟩ (fun e1 e2 => by
        simp only [] at e1 e2 ⊢
        refine Classical.byContradiction fun hh => e ?_
        have : i = o := by simp at hh; omega
        rw [this, e1])
      exact this.trans hu⟩, fun c cs t fr h => by
  by_cases e : b = c
  · subst e
    exact ⟨cs.setIfInBounds o v, by simp [World.setCell, Array.getElem?_modify, h], by simp⟩
  · exact ⟨cs, by simpa [World.setCell, Array.getElem?_modify, e] using h, rfl⟩⟩
theorem same_setCells (b : Nat) : ∀ (vs : List Value) (o : Nat) (w : World), Same w (w.setCells b o vs)
  | [], _, w => Same.refl w
  | v :: r, o, w => Same.trans (b := w.setCell ⟨b, o, none⟩ v) (same_setCell w b o v) (same_setCells b r (o + 1) (w.setCell ⟨b, o, none⟩ v))

theorem store_ext (hr : Rel φ H w) {b o : Nat} {l : Loc} (hb : φ b = some l) {vs : List V} {vs' : List Value} (hv : Rvs φ vs vs') {H' : Heap} (h : H.storeN b o vs = some H') :
    (storeCells ⟨l.c, l.base + o, none⟩ vs').run P w = .ok () (w.setCells l.c (l.base + o) vs') ∧ Ext φ H w φ H' (w.setCells l.c (l.base + o) vs') := by
  obtain ⟨cs, g, hg, h1, h2, h3, h4, h5⟩ := storeN_some h
  have hlen := hv.length
  have hlim := hr.len hb hg
  have hthere : ∀ j, j < vs'.length → (w.cell? ⟨l.c, l.base + o + j, none⟩).isSome = true := fun j hj => by
    obtain ⟨⟨u, hu⟩, _⟩ := hr.room hb (i := o + j) (by omega)
    rw [← Nat.add_assoc] at hu
    rw [hu]; rfl
  have hfree : ∀ j, j < vs'.length → w.frozen? ⟨l.c, l.base + o + j, none⟩ = false := fun j hj => by
    obtain ⟨_, hu⟩ := hr.room hb (i := o + j) (by omega)
    rw [← Nat.add_assoc] at hu
    exact hu
  have hrun := run_storeCells_cells (P := P) l.c (l.base + o) vs' 0 w (by simpa using hthere) (by simpa using hfree) (allOne_ok hv h1)
  rw [Nat.add_zero] at hrun
  have hin := World.cell?_setCells_in l.c vs' (l.base + o) w hthere
  -- who else lies at the same place is dead
  have hdead : ∀ {b1 : Nat} {l1 : Loc} {cs1 : List V} {g1 : Nat}, φ b1 = some l1 → H'.get b1 = .cells cs1 g1 → H'.lives b1 g1 = true → b1 ≠ b → l1.c ≠ l.c ∧ H.get b1 = .cells cs1 g1 ∧ H.lives b1 g1 = true := by
    intro b1 l1 cs1 g1 e1 e2 e3 e4
    rw [h5, if_neg (fun e => e4 e.symm)] at e2
    have e5 : H.get b1 = .cells cs1 g1 := by
      split at e2
      · cases e2
      · exact e2
    have key : g ≠ 0 → g1 ≠ g := by
      intro hg0 hgg
      subst hgg
      rcases h4 with h4 | ⟨fl, h4⟩
      · exact hg0 h4
      · have hle := hr.mem e5 hg0 h4
        rcases lives_iff.1 e3 with e | ⟨leaf, fl', e6, e7⟩
        · exact hg0 e
        · rw [h5] at e6
          have hbg : b ≠ g1 := by intro e; rw [e, h4] at hg; cases hg
          rw [if_neg hbg, if_pos ⟨rfl, hg0⟩] at e6
          cases e6
          omega
    refine ⟨fun hc => ?_, e5, ?_⟩
    · obtain ⟨a1, a2, gg, hgg, ha1, ha2⟩ := hr.inj e1 hb hc e4
      rw [e5] at ha1
      rw [hg] at ha2
      cases ha1
      cases ha2
      exact key hgg rfl
    · rcases lives_iff.1 e3 with e | ⟨leaf, fl', e6, e7⟩
      · exact lives_iff.2 (.inl e)
      · rw [h5] at e6
        split at e6
        · cases e6
        · split at e6
          · rename_i hh
            exact absurd hh.1.symm (key hh.2)
          · exact lives_iff.2 (.inr ⟨leaf, fl', e6, e7⟩)
  have hothC : ∀ {b1 : Nat} {l1 : Loc} {o1 : Oth}, φ b1 = some l1 → H'.get b1 = .oth o1 → l1.base = 0 ∧ othOk φ (w.setCells l.c (l.base + o) vs') l1.c o1 := by
    intro b1 l1 o1 e1 e2
    have e3 : b ≠ b1 := by intro e; rw [h5, if_pos e] at e2; cases e2
    have e4 : H.get b1 = .oth o1 := by
      rw [h5, if_neg e3] at e2
      split at e2
      · cases e2
      · exact e2
    obtain ⟨f1, f2⟩ := hr.oth e1 e4
    refine ⟨f1, f2.mono (Phi.le_refl φ) (far_setCells _ _ ?_ _ _ _)⟩
    intro hc
    obtain ⟨_, _, _, _, a1, _⟩ := hr.inj e1 hb hc.symm (fun e => e3 e.symm)
    rw [e4] at a1
    cases a1
  have hkeepN : ∀ {b1 : Nat} {l1 : Loc}, φ b1 = some l1 → H.get b1 = .none → H'.get b1 = .none ∧ (w.setCells l.c (l.base + o) vs').heap[l1.c]? = w.heap[l1.c]? := by
    intro b1 l1 e1 e2
    have e3 : b ≠ b1 := by intro e; rw [← e, hg] at e2; cases e2
    refine ⟨?_, far_setCells _ _ ?_ _ _ _⟩
    · rw [h5, if_neg e3]
      split
      · rename_i hh
        rcases h4 with h4 | ⟨fl, h4⟩
        · exact absurd h4 hh.2
        · rw [hh.1, e2] at h4; cases h4
      · exact e2
    · intro hc
      obtain ⟨_, _, _, _, a1, _⟩ := hr.inj e1 hb hc.symm (fun e => e3 e.symm)
      rw [e2] at a1
      cases a1
  refine ⟨hrun, ⟨⟨?_, ?_, ?_, ?_, ?_, ?_, ?_, ?_, hothC⟩, Phi.le_refl φ, fun e1 e2 => absurd (e1.symm.trans e2) (by simp), ?_, Nat.le_of_eq h3.symm, ?_, by rw [size_setCells]; exact Nat.le_refl _, same_setCells _ _ _ _, hkeepN⟩⟩
  · intro b1 l1 cs1 g1 i v e1 e2 e3 e4
    by_cases hbb : b1 = b
    · subst hbb
      rw [hb] at e1
      cases e1
      rw [h5, if_pos rfl] at e2
      cases e2
      rw [splice_get _ _ _ _ h2] at e4
      split at e4
      · rename_i hi
        obtain ⟨v', e5, e6⟩ := hv.get _ _ e4
        refine ⟨v', ?_, e6⟩
        have hj : i - o < vs'.length := by omega
        have := hin (i - o) hj
        have e7 : l.base + o + (i - o) = l.base + i := by omega
        rw [e7] at this
        rw [this]
        rw [← e5]
        simp [hj]
      · rename_i hi
        have hlive : H.lives b1 g = true := by
          rcases h4 with h4 | ⟨fl, h4⟩
          · exact lives_iff.2 (.inl h4)
          · exact lives_iff.2 (.inr ⟨_, fl, h4, hr.flo h4⟩)
        obtain ⟨v', e5, e6⟩ := hr.cell hb hg hlive e4
        refine ⟨v', ?_, e6⟩
        rw [World.cell?_setCells_out _ _ _ _ _ (fun _ _ => by simp; omega)]
        exact e5
    · obtain ⟨e5, e6, e7⟩ := hdead e1 e2 e3 hbb
      obtain ⟨v', e8, e9⟩ := hr.cell e1 e6 e7 e4
      refine ⟨v', ?_, e9⟩
      rw [World.cell?_setCells_out _ _ _ _ _ (fun e _ => absurd e e5)]
      exact e8
  · intro b1 l1 i e1 e2
    obtain ⟨⟨u, hu⟩, hf⟩ := hr.room e1 e2
    refine ⟨?_, by rw [World.frozen?_setCells]; exact hf⟩
    by_cases hc : l1.c = l.c ∧ l.base + o ≤ l1.base + i ∧ l1.base + i < l.base + o + vs'.length
    · have hj : l1.base + i - (l.base + o) < vs'.length := by omega
      have := hin _ hj
      have e7 : l.base + o + (l1.base + i - (l.base + o)) = l1.base + i := by omega
      rw [e7] at this
      rw [hc.1]
      exact ⟨_, this⟩
    · refine ⟨u, ?_⟩
      rw [World.cell?_setCells_out _ _ _ _ _ (fun e _ => by simp at e ⊢; omega)]
      exact hu
  · intro b1 l1 cs1 g1 e1 e2
    rw [h5] at e2
    split at e2
    · rename_i e
      subst e
      cases e2
      rw [hb] at e1
      cases e1
      simp
      omega
    · split at e2
      · cases e2
      · exact hr.len e1 e2
  · intro b1 b2 l1 l2 e1 e2 e3 e4
    obtain ⟨a1, a2, gg, hgg, ha1, ha2⟩ := hr.inj e1 e2 e3 e4
    have aux : ∀ {x : Nat} {a : List V}, H.get x = .cells a gg → ∃ a', H'.get x = .cells a' gg := by
      intro x a hx
      rw [h5]
      split
      · rename_i e
        subst e
        rw [hg] at hx
        cases hx
        exact ⟨_, rfl⟩
      · split
        · rename_i hh
          rcases h4 with h4 | ⟨fl, h4⟩
          · exact absurd h4 hh.2
          · rw [hh.1, hx] at h4; cases h4
        · exact ⟨a, hx⟩
    obtain ⟨a1', ha1'⟩ := aux ha1
    obtain ⟨a2', ha2'⟩ := aux ha2
    exact ⟨a1', a2', gg, hgg, ha1', ha2'⟩
  · intro b1 e1
    rw [h3] at e1
    obtain ⟨e2, e3⟩ := hr.top e1
    refine ⟨e2, ?_⟩
    rw [h5]
    split
    · rename_i e; subst e; rw [hg] at e3; cases e3
    · split
      · rename_i hh
        rcases h4 with h4 | ⟨fl, h4⟩
        · exact absurd h4 hh.2
        · rw [hh.1, e3] at h4; cases h4
      · exact e3
  · intro b1 l1 e1
    rw [size_setCells]
    exact hr.loc e1
  · intro b1 cs1 g1 leaf fl e1 e2 e3
    have e1' : ∃ c, H.get b1 = .cells c g1 := by
      rw [h5] at e1
      split at e1
      · rename_i e; subst e; cases e1; exact ⟨cs, hg⟩
      · split at e1
        · cases e1
        · exact ⟨_, e1⟩
    obtain ⟨c, e1'⟩ := e1'
    rw [h5] at e3
    split at e3
    · cases e3
    · split at e3
      · rename_i hh
        cases e3
        rcases h4 with h4 | ⟨fl', h4⟩
        · exact absurd h4 hh.2
        · rw [hh.1] at h4; exact hr.mem e1' e2 h4
      · exact hr.mem e1' e2 e3
  · intro g1 leaf fl e3
    rw [h5] at e3
    split at e3
    · cases e3
    · split at e3
      · cases e3; exact Nat.le_refl _
      · exact hr.flo e3
  · intro x hx hn hng
    rw [h5]
    split
    · rename_i e; subst e; rw [hb] at hn; cases hn
    · split
      · rename_i hh
        rcases h4 with h4 | ⟨fl', h4⟩
        · exact absurd h4 hh.2
        · rw [hh.1] at h4; exact absurd h4 (hng _ _)
      · rfl
  · intro c hc hno
    exact far_setCells l.c c (hno b l hb) vs' _ w
end
end Go.Ev
/- The abstract evaluator, part U: new blocks. -/
namespace Go.Ev
/-- one more location -/
def Phi.add (φ : Phi) (b : Nat) (l : Loc) : Phi := fun x => if x = b then some l else φ x
theorem Phi.add_self (φ : Phi) (b : Nat) (l : Loc) : φ.add b l b = some l := by simp [Phi.add]
theorem Phi.le_add {φ : Phi} {b : Nat} {l : Loc} (h : φ b = none) : φ.le (φ.add b l) := by
  intro x m hx
  unfold Phi.add
  split
  · rename_i e; subst e; rw [h] at hx; cases hx
  · exact hx
section
variable {P : Program} {φ : Phi} {H : Heap} {w w' : World}

/-- the abstract heap has one more block, which nobody knows yet -/
theorem rel_push (hr : Rel φ H w) {cs : List V} : Rel φ (H.push (.cells cs 0)) w := by
  have hg : ∀ {b l}, φ b = some l → H.next ≠ b := fun {b l} h e => by
    have := (hr.top (b := b) (by omega)).1
    rw [h] at this; cases this
  have hget : ∀ {x a b}, (H.push (.cells cs 0)).get x = .grp a b → H.get x = .grp a b := by
    intro x a b h
    rw [Heap.get_push] at h
    split at h
    · cases h
    · exact h
  have hl : ∀ {b g}, b ≠ H.next → (H.push (.cells cs 0)).lives b g = true → H.lives b g = true := by
    intro b g hb h
    rcases lives_iff.1 h with e | ⟨a, c, e, e'⟩
    · exact lives_iff.2 (.inl e)
    · exact lives_iff.2 (.inr ⟨a, c, hget e, e'⟩)
  refine ⟨?_, hr.room, ?_, ?_, ?_, hr.loc, ?_, fun e => hr.flo (hget e), fun {b l o} e1 e2 => hr.oth e1 (by rw [Heap.get_push, if_neg (hg e1)] at e2; exact e2)⟩
  · intro b l cs1 g i v e1 e2 e3 e4
    rw [Heap.get_push, if_neg (hg e1)] at e2
    exact hr.cell e1 e2 (hl (fun e => hg e1 e.symm) e3) e4
  · intro b l cs1 g e1 e2
    rw [Heap.get_push, if_neg (hg e1)] at e2
    exact hr.len e1 e2
  · intro b b' l l' e1 e2 e3 e4
    obtain ⟨a, a', g, h1, h2, h3⟩ := hr.inj e1 e2 e3 e4
    refine ⟨a, a', g, h1, ?_, ?_⟩
    · rw [Heap.get_push, if_neg (hg e1)]; exact h2
    · rw [Heap.get_push, if_neg (hg e2)]; exact h3
  · intro b hb
    have hb' : H.next + 1 ≤ b := hb
    obtain ⟨h1, h2⟩ := hr.top (b := b) (by omega)
    refine ⟨h1, ?_⟩
    rw [Heap.get_push, if_neg (by omega)]
    exact h2
  · intro b cs1 g leaf fl e1 e2 e3
    rw [Heap.get_push] at e1
    split at e1
    · cases e1; exact absurd rfl e2
    · exact hr.mem e1 e2 (hget e3)

/-- a block that the abstract heap has already is made in the world -/
theorem rel_new (hr : Rel φ H w) {b : Nat} {cs : List V} (hb : H.get b = .cells cs 0) (hn : φ b = none) (hlt : b < H.next) {lim : Nat} (h : NewOk φ (.cells cs 0) lim w w') :
    Rel (φ.add b ⟨w.heap.size, 0, lim⟩) H w' := by
  obtain ⟨cs2, hcs, hlim, hcell, hroom⟩ := h.obj
  cases hcs
  have hle := Phi.le_add (l := ⟨w.heap.size, 0, lim⟩) hn
  have hold : ∀ {x : Nat} {l : Loc}, φ.add b ⟨w.heap.size, 0, lim⟩ x = some l → (x = b ∧ l = ⟨w.heap.size, 0, lim⟩) ∨ (x ≠ b ∧ φ x = some l) := by
    intro x l hx
    unfold Phi.add at hx
    split at hx
    · cases hx; exact .inl ⟨by assumption, rfl⟩
    · exact .inr ⟨by assumption, hx⟩
  have hc : ∀ {c i : Nat}, c < w.heap.size → w'.cell? ⟨c, i, none⟩ = w.cell? ⟨c, i, none⟩ := by
    intro c i hc; unfold World.cell?; rw [h.old c hc]
  have hf : ∀ {c i : Nat}, c < w.heap.size → w'.frozen? ⟨c, i, none⟩ = w.frozen? ⟨c, i, none⟩ := by
    intro c i hc; unfold World.frozen?; rw [h.old c hc]
  refine ⟨?_, ?_, ?_, ?_, ?_, ?_, hr.mem, hr.flo, ?_⟩
  rotate_right
  · intro x l o e1 e2
    rcases hold e1 with ⟨rfl, rfl⟩ | ⟨_, e1⟩
    · rw [hb] at e2; cases e2
    · obtain ⟨f1, f2⟩ := hr.oth e1 e2
      exact ⟨f1, f2.mono hle (h.old _ (hr.loc e1))⟩
  · intro x l cs1 g i v e1 e2 e3 e4
    rcases hold e1 with ⟨rfl, rfl⟩ | ⟨_, e1⟩
    · rw [hb] at e2
      cases e2
      obtain ⟨v', e5, e6⟩ := hcell i v e4
      exact ⟨v', by simpa using e5, e6.mono hle⟩
    · obtain ⟨v', e5, e6⟩ := hr.cell e1 e2 e3 e4
      exact ⟨v', by rw [hc (hr.loc e1)]; exact e5, e6.mono hle⟩
  · intro x l i e1 e2
    rcases hold e1 with ⟨rfl, rfl⟩ | ⟨_, e1⟩
    · simpa using hroom i e2
    · obtain ⟨h1, h2⟩ := hr.room e1 e2
      rw [hc (hr.loc e1), hf (hr.loc e1)]
      exact ⟨h1, h2⟩
  · intro x l cs1 g e1 e2
    rcases hold e1 with ⟨rfl, rfl⟩ | ⟨_, e1⟩
    · rw [hb] at e2; cases e2; exact hlim
    · exact hr.len e1 e2
  · intro x y l l' e1 e2 e3 e4
    rcases hold e1 with ⟨rfl, rfl⟩ | ⟨_, f1⟩
    · rcases hold e2 with ⟨rfl, rfl⟩ | ⟨_, f2⟩
      · exact absurd rfl e4
      · have := hr.loc f2; simp at e3; omega
    · have hl := hr.loc f1
      rcases hold e2 with ⟨rfl, rfl⟩ | ⟨_, f2⟩
      · simp at e3; omega
      · exact hr.inj f1 f2 e3 e4
  · intro x hx
    obtain ⟨h1, h2⟩ := hr.top hx
    refine ⟨?_, h2⟩
    unfold Phi.add
    rw [if_neg (by omega)]
    exact h1
  · intro x l e1
    rw [h.size]
    rcases hold e1 with ⟨rfl, rfl⟩ | ⟨_, e1⟩
    · simp
    · have := hr.loc e1; omega

theorem ext_new (hr : Rel φ H w) {cs : List V} {lim : Nat} (h : NewOk φ (.cells cs 0) lim w w') :
    Ext φ H w (φ.add H.next ⟨w.heap.size, 0, lim⟩) (H.push (.cells cs 0)) w' := by
  have hn : φ H.next = none := (hr.top (Nat.le_refl _)).1
  refine ⟨rel_new (rel_push hr) (by rw [Heap.get_push, if_pos rfl]) hn (by show H.next < H.next + 1; omega) h, Phi.le_add hn, ?_, ?_, by show H.next ≤ H.next + 1; omega, ?_, by rw [h.size]; omega, h.same, fun {b l} e1 e2 => ⟨by rw [Heap.get_push, if_neg (fun e => by rw [← e, hn] at e1; cases e1)]; exact e2, h.old _ (hr.loc e1)⟩⟩
  · intro b l e1 e2
    unfold Phi.add at e2
    split at e2
    · rename_i e; subst e; cases e2; exact ⟨Nat.le_refl _, .inl (Nat.le_refl _)⟩
    · rw [e1] at e2; cases e2
  · intro b hb _ _
    rw [Heap.get_push, if_neg (by omega)]
  · intro c hc _
    exact h.old c hc
end
end Go.Ev
/- The abstract evaluator, part V: append, what the model does. -/
namespace Go.Ev
section
variable {P : Program} {φ : Phi} {H : Heap} {w : World}

theorem growBy_le (need : Nat) : ∀ r c, c ≤ need → Builtin.growBy need r c ≤ 2 * need + 200 := by
  intro r
  induction r with
  | zero => intro c hc; simp [Builtin.growBy]; omega
  | succ r ih =>
    intro c hc
    unfold Builtin.growBy
    split
    · omega
    · by_cases h : c + (c + 768) / 4 ≤ need
      · exact ih _ h
      · have : ∀ r c, need ≤ c → Builtin.growBy need r c = c := by
          intro r c hc
          cases r with
          | zero => rfl
          | succ r => unfold Builtin.growBy; rw [if_pos hc]
        rw [this _ _ (by omega)]
        omega
theorem nextslicecap_le {need old : Nat} (h : old < need) : Builtin.nextslicecap need old ≤ 2 * need + 200 := by
  unfold Builtin.nextslicecap
  split
  · omega
  · split
    · omega
    · exact growBy_le need 4 old (by omega)

/-- the cells of the appended operand -/
def Fits (P : Program) (w : World) (size n : Nat) (x : Value) (new : List Value) : Prop :=
  (Builtin.lenOf x).run P w = .ok n w ∧ ∀ k, (Builtin.firstCells size n x).run P { w with drawn := w.drawn + k } = .ok ⟨new⟩ { w with drawn := w.drawn + k }

theorem append_in {st e : TypeId} (hu : P.underlying st = some (.slice e)) {i : TypeInfo} (hi : P.info? e = some i) {xt ty : TypeId} {xd : TypeDesc} (hx : P.underlying xt = some xd) (hnx : ∀ k, xd ≠ .int k)
    {ts : Array TypeId} (h0 : ts[0]? = some st) (h1 : ts[1]? = some xt) {a : Addr} {len cap n : Nat} {x : Value} {new : List Value} (hf : Fits P w i.size n x new) (hle : len + n ≤ cap) {w' : World}
    (hs : (storeCells (a.add (len * i.size)) new).run P w = .ok () w') :
    (Builtin.append_ ts ty #[.slice (some a) len cap, x]).run P w = .ok (.slice (some a) (len + n) cap) w' := by
  obtain ⟨hf1, hf2⟩ := hf
  have hf2' := hf2 0
  simp only [Nat.add_zero] at hf2'
  unfold Builtin.append_
  have g0 : (#[Value.slice (some a) len cap, x] : Array Value)[0]? = some (.slice (some a) len cap) := rfl
  have g1 : (#[Value.slice (some a) len cap, x] : Array Value)[1]? = some x := rfl
  have hsz : (sizeOf e).run P w = .ok i.size w := by simp [sizeOf, run_info hi]
  simp only [h0, h1, g0, g1, Sem.run_bind, run_underlying hu, Result.andThen_ok, hsz, run_underlying hx, Sem.run_pure, Bool.false_eq_true, if_false, hf1, if_pos hle, Bool.not_false, if_true, hf2', hs]

theorem append_grow {st e : TypeId} (hu : P.underlying st = some (.slice e)) {i : TypeInfo} (hi : P.info? e = some i) {z : Value} (hz : i.zero = some z) (hzs : z.cells.size = i.size) {xt ty : TypeId} {xd : TypeDesc} (hx : P.underlying xt = some xd) (hnx : ∀ k, xd ≠ .int k)
    {ts : Array TypeId} (h0 : ts[0]? = some st) (h1 : ts[1]? = some xt) {a : Option Addr} {len cap n : Nat} {x : Value} {new old : List Value} (hf : Fits P w i.size n x new) (hgt : cap < len + n)
    (hold : ∀ k, (Builtin.firstCells i.size len (.slice a len cap)).run P { w with drawn := w.drawn + k } = .ok ⟨old⟩ { w with drawn := w.drawn + k })
    (hb1 : len + n ≤ 1099511627776) (hb2 : (len + n) * i.bytes ≤ 1099511627776) :
    ∃ c, len + n ≤ c ∧ ∃ rest : List Value, rest.length = (c - (len + n)) * i.size ∧
      (Builtin.append_ ts ty #[.slice a len cap, x]).run P w = .ok (.slice (some ⟨w.heap.size, 0, none⟩) (len + n) c) (w.drew.alloc (.cells ⟨old ++ new ++ rest⟩ e)) := by
  obtain ⟨hf1, hf2⟩ := hf
  have hf2' := hf2 1
  have hold' := hold 1
  have hsz : ∀ w, (sizeOf e).run P w = .ok i.size w := by intro w; simp [sizeOf, run_info hi]
  have g0 : (#[Value.slice a len cap, x] : Array Value)[0]? = some (.slice a len cap) := rfl
  have g1 : (#[Value.slice a len cap, x] : Array Value)[1]? = some x := rfl
  have hnle : ¬ (len + n ≤ cap) := by omega
  have hmax : ¬ (((len + n : Nat) : Int) > IntKind.i64.max) := by
    have : IntKind.i64.max = 9223372036854775807 := by decide
    rw [this]; omega
  have hcap : ¬ (Builtin.nextslicecap (len + n) cap * i.bytes > 2 ^ 48) := by
    have h1 := nextslicecap_le hgt
    have h2 : Builtin.nextslicecap (len + n) cap * i.bytes ≤ (2 * (len + n) + 200) * i.bytes := Nat.mul_le_mul_right _ h1
    have h3 : (2 * (len + n) + 200) * i.bytes = 2 * ((len + n) * i.bytes) + 200 * i.bytes := by rw [Nat.add_mul, Nat.mul_assoc]
    have h4 : i.bytes ≤ (len + n) * i.bytes := Nat.le_mul_of_pos_left _ (by omega)
    omega
  let c := Question.cut (.appendCap (len + n) cap e) (w.tape w.drawn (.appendCap (len + n) cap e))
  have hc : len + n ≤ c := Nat.le_add_right _ _
  have hch : (choose (.appendCap (len + n) cap e)).run P w = .ok c { w with drawn := w.drawn + 1 } := by simp [Question.forced, c]
  refine ⟨c, hc, (Builtin.zeroCells z.cells (c - (len + n))).toList, by simp [Builtin.zeroCells, hzs], ?_⟩
  unfold Builtin.append_
  simp only [h0, h1, g0, g1, Sem.run_bind, run_underlying hu, Result.andThen_ok, hsz, run_underlying hx, Sem.run_pure, Bool.false_eq_true, if_false, hf1, if_neg hnle, Bool.not_false, if_true]
  simp only [hmax, false_and, if_false, Sem.run_bind, Sem.run_pure, Result.andThen_ok, run_info hi, if_neg hcap, hch, run_askRoom, hold', hf2', run_zero hi hz, newRow, run_newObj]
  have harr : (({ toList := old } ++ { toList := new } ++ Builtin.zeroCells z.cells (c - (len + n)) : Array Value)) = { toList := old ++ new ++ (Builtin.zeroCells z.cells (c - (len + n))).toList } := by
    apply Array.ext'
    simp
  rw [harr]
  rfl
end
end Go.Ev
/- The abstract evaluator, part W: append. -/
namespace Go.Ev
section
variable {P : Program} {φ : Phi} {H H' : Heap} {w w' : World}

structure HApp (H H' : Heap) (g : Nat) (cs : List V) : Prop where
  get : ∀ x, H'.get x = if x = H.next then .cells cs g else if x = g then .grp H.next H.next else H.get x
  lo : H.next < H'.next
  hi : g < H'.next
  g0 : g ≠ 0
  gb : g ≠ H.next
  old : H.next ≤ g ∨ ∃ leaf fl, H.get g = .grp leaf fl

theorem ext_app (hr : Rel φ H w) {g : Nat} {cs : List V} (ha : HApp H H' g cs) {l : Loc}
    (hkeep : ∀ {x : Nat} {l1 : Loc} {c1 : List V} {g1 i : Nat}, φ x = some l1 → H.get x = .cells c1 g1 → g1 ≠ g → w'.cell? ⟨l1.c, l1.base + i, none⟩ = w.cell? ⟨l1.c, l1.base + i, none⟩)
    (hroom : ∀ {x : Nat} {l1 : Loc} {i : Nat}, φ x = some l1 → i < l1.lim → (∃ v', w'.cell? ⟨l1.c, l1.base + i, none⟩ = some v') ∧ w'.frozen? ⟨l1.c, l1.base + i, none⟩ = false)
    (hnew : ∀ {i : Nat} {v : V}, cs[i]? = some v → ∃ v', w'.cell? ⟨l.c, l.base + i, none⟩ = some v' ∧ Rv φ v v')
    (hnr : ∀ {i : Nat}, i < l.lim → (∃ v', w'.cell? ⟨l.c, l.base + i, none⟩ = some v') ∧ w'.frozen? ⟨l.c, l.base + i, none⟩ = false)
    (hlen : cs.length ≤ l.lim) (hinj : ∀ {x : Nat} {l1 : Loc}, φ x = some l1 → l1.c = l.c → ∃ c1, H.get x = .cells c1 g)
    (hloc : l.c < w'.heap.size) (hsz : w.heap.size ≤ w'.heap.size) (hkc : ∀ {c : Nat}, c < w.heap.size → (∀ b l, φ b = some l → l.c ≠ c) → w'.heap[c]? = w.heap[c]?) (hs : Same w w')
    (hfr : w.heap.size ≤ l.c ∨ ∃ b0 l0, φ b0 = some l0 ∧ l0.c = l.c)
    (hoth : ∀ {x : Nat} {l1 : Loc} {o : Oth}, φ x = some l1 → H.get x = .oth o → w'.heap[l1.c]? = w.heap[l1.c]?)
    (hnone : ∀ {x : Nat} {l1 : Loc}, φ x = some l1 → H.get x = .none → w'.heap[l1.c]? = w.heap[l1.c]?) : Ext φ H w (φ.add H.next l) H' w' := by
  have hn : φ H.next = none := (hr.top (Nat.le_refl _)).1
  have hle := Phi.le_add (l := l) hn
  have hdom : ∀ {x : Nat} {l1 : Loc}, φ x = some l1 → x < H.next := by
    intro x l1 h
    rcases Nat.lt_or_ge x H.next with h1 | h1
    · exact h1
    · rw [(hr.top h1).1] at h; cases h
  have hdom2 : ∀ {x : Nat}, H.get x ≠ .none → x < H.next := by
    intro x h
    rcases Nat.lt_or_ge x H.next with h1 | h1
    · exact h1
    · exact absurd (hr.top h1).2 h
  have hold : ∀ {x : Nat} {l1 : Loc}, φ.add H.next l x = some l1 → (x = H.next ∧ l1 = l) ∨ (x ≠ H.next ∧ φ x = some l1) := by
    intro x l hx
    unfold Phi.add at hx
    split at hx
    · cases hx; exact .inl ⟨by assumption, rfl⟩
    · exact .inr ⟨by assumption, hx⟩
  have hcells : ∀ {x : Nat} {c1 : List V} {g1 : Nat}, x ≠ H.next → H'.get x = .cells c1 g1 → H.get x = .cells c1 g1 := by
    intro x c1 g1 h1 h2
    rw [ha.get, if_neg h1] at h2
    split at h2
    · cases h2
    · exact h2
  have hgrp : ∀ {x a b : Nat}, x ≠ g → H'.get x = .grp a b → H.get x = .grp a b := by
    intro x a b h1 h2
    rw [ha.get] at h2
    by_cases h3 : x = H.next
    · rw [if_pos h3] at h2; cases h2
    · rw [if_neg h3, if_neg h1] at h2; exact h2
  have hfor : ∀ {x : Nat} {c1 : List V} {g1 : Nat}, H.get x = .cells c1 g1 → H'.get x = .cells c1 g1 := by
    intro x c1 g1 h1
    rw [ha.get, if_neg (by have := hdom2 (x := x) (by rw [h1]; simp); omega), if_neg ?_]
    · exact h1
    · intro e
      subst e
      rcases ha.old with h | ⟨a, b, h⟩
      · rw [(hr.top h).2] at h1; cases h1
      · rw [h] at h1; cases h1
  have hothC : ∀ {x : Nat} {l1 : Loc} {o : Oth}, φ.add H.next l x = some l1 → H'.get x = .oth o → l1.base = 0 ∧ othOk (φ.add H.next l) w' l1.c o := by
    intro x l1 o e1 e2
    rcases hold e1 with ⟨h1, _⟩ | ⟨h1, f1⟩
    · rw [ha.get, if_pos h1] at e2; cases e2
    · have e3 : H.get x = .oth o := by
        rw [ha.get, if_neg h1] at e2
        split at e2
        · cases e2
        · exact e2
      obtain ⟨f2, f3⟩ := hr.oth f1 e3
      exact ⟨f2, f3.mono hle (hoth f1 e3)⟩
  have hkeepN : ∀ {x : Nat} {l1 : Loc}, φ x = some l1 → H.get x = .none → H'.get x = .none ∧ w'.heap[l1.c]? = w.heap[l1.c]? := by
    intro x l1 e1 e2
    refine ⟨?_, hnone e1 e2⟩
    have hx := hdom e1
    rw [ha.get, if_neg (by omega)]
    split
    · rename_i e
      subst e
      rcases ha.old with h | ⟨a, b, h⟩
      · omega
      · rw [h] at e2; cases e2
    · exact e2
  refine ⟨⟨?_, ?_, ?_, ?_, ?_, ?_, ?_, ?_, hothC⟩, hle, ?_, ?_, Nat.le_of_lt ha.lo, hkc, hsz, hs, hkeepN⟩
  · intro x l1 c1 g1 i v e1 e2 e3 e4
    rcases hold e1 with ⟨rfl, rfl⟩ | ⟨h1, f1⟩
    · rw [ha.get, if_pos rfl] at e2
      cases e2
      obtain ⟨v', e5, e6⟩ := hnew e4
      exact ⟨v', e5, e6.mono hle⟩
    · have e2' := hcells h1 e2
      have hg1 : g1 ≠ g := by
        intro e
        subst e
        rcases lives_iff.1 e3 with e | ⟨a, b, e5, e6⟩
        · exact ha.g0 e
        · rw [ha.get, if_neg ha.gb, if_pos rfl] at e5
          cases e5
          have := hdom f1
          omega
      have hl : H.lives x g1 = true := by
        rcases lives_iff.1 e3 with e | ⟨a, b, e5, e6⟩
        · exact lives_iff.2 (.inl e)
        · exact lives_iff.2 (.inr ⟨a, b, hgrp hg1 e5, e6⟩)
      obtain ⟨v', e5, e6⟩ := hr.cell f1 e2' hl e4
      exact ⟨v', by rw [hkeep f1 e2' hg1]; exact e5, e6.mono hle⟩
  · intro x l1 i e1 e2
    rcases hold e1 with ⟨rfl, rfl⟩ | ⟨_, f1⟩
    · exact hnr e2
    · exact hroom f1 e2
  · intro x l1 c1 g1 e1 e2
    rcases hold e1 with ⟨rfl, rfl⟩ | ⟨h1, f1⟩
    · rw [ha.get, if_pos rfl] at e2; cases e2; exact hlen
    · exact hr.len f1 (hcells h1 e2)
  · intro x y l1 l2 e1 e2 e3 e4
    rcases hold e1 with ⟨h1, h1'⟩ | ⟨h1, f1⟩
    · rcases hold e2 with ⟨h2, h2'⟩ | ⟨h2, f2⟩
      · exact absurd (h1.trans h2.symm) e4
      · rw [h1'] at e3
        obtain ⟨c1, hc1⟩ := hinj f2 e3.symm
        exact ⟨cs, c1, g, ha.g0, by rw [ha.get, if_pos h1], hfor hc1⟩
    · rcases hold e2 with ⟨h2, h2'⟩ | ⟨h2, f2⟩
      · rw [h2'] at e3
        obtain ⟨c1, hc1⟩ := hinj f1 e3
        exact ⟨c1, cs, g, ha.g0, hfor hc1, by rw [ha.get, if_pos h2]⟩
      · obtain ⟨a, a', gg, h3, h4, h5⟩ := hr.inj f1 f2 e3 e4
        exact ⟨a, a', gg, h3, hfor h4, hfor h5⟩
  · intro x hx
    have h1 := ha.lo
    have h2 := ha.hi
    obtain ⟨h3, h4⟩ := hr.top (b := x) (by omega)
    refine ⟨?_, ?_⟩
    · unfold Phi.add; rw [if_neg (by omega)]; exact h3
    · rw [ha.get, if_neg (by omega), if_neg (by omega)]; exact h4
  · intro x l1 e1
    rcases hold e1 with ⟨rfl, rfl⟩ | ⟨_, f1⟩
    · exact hloc
    · exact Nat.lt_of_lt_of_le (hr.loc f1) hsz
  · intro x c1 g1 leaf fl e1 e2 e3
    by_cases hg : g1 = g
    · subst hg
      rw [ha.get, if_neg ha.gb, if_pos rfl] at e3
      cases e3
      by_cases hx : x = H.next
      · omega
      · exact Nat.le_of_lt (hdom2 (by rw [hcells hx e1]; simp))
    · have hx : x ≠ H.next := by
        intro e
        rw [ha.get, if_pos e] at e1
        cases e1
        exact hg rfl
      exact hr.mem (hcells hx e1) e2 (hgrp hg e3)
  · intro g1 leaf fl e3
    by_cases hg : g1 = g
    · subst hg
      rw [ha.get, if_neg ha.gb, if_pos rfl] at e3
      cases e3
      exact Nat.le_refl _
    · exact hr.flo (hgrp hg e3)
  · intro x l1 e1 e2
    rcases hold e2 with ⟨rfl, rfl⟩ | ⟨_, f1⟩
    · exact ⟨Nat.le_refl _, hfr⟩
    · rw [e1] at f1; cases f1
  · intro x hx _ hng
    rw [ha.get, if_neg (by omega)]
    split
    · rename_i e
      subst e
      rcases ha.old with h | ⟨a, b, h⟩
      · omega
      · exact absurd h (hng _ _)
    · rfl

theorem happ_grow {size need : Nat} {cs : List V} {r : V × Heap} (h : growG H size need cs = some r) : r.1 = .slice H.next 0 need (.grown size) ∧ HApp H r.2 (H.next + 1) cs := by
  cases h
  refine ⟨rfl, ⟨fun x => ?_, by show H.next < H.next + 1 + 1; omega, by show H.next + 1 < H.next + 1 + 1; omega, by omega, by omega, .inl (by omega)⟩⟩
  show ((H.push (.cells cs (H.next + 1))).push (.grp H.next H.next)).get x = _
  rw [Heap.get_push, Heap.get_push]
  have e : (H.push (.cells cs (H.next + 1))).next = H.next + 1 := rfl
  rw [e]
  by_cases h1 : x = H.next
  · subst h1; simp
  · by_cases h2 : x = H.next + 1
    · subst h2; simp
    · rw [if_neg (fun e => h2 e.symm), if_neg (fun e => h1 e.symm), if_neg h1, if_neg h2]
theorem happ_in (hr : Rel φ H w) {size b need : Nat} {cs : List V} {r : V × Heap} (h : appendIn H size b need cs = some r) :
    r.1 = .slice H.next 0 need (.grown size) ∧ ∃ c0 g, H.get b = .cells c0 g ∧ HApp H r.2 g cs := by
  unfold appendIn at h
  cases hb : H.get b with
  | cells c0 g =>
    rw [hb] at h
    have h' : AObj.casesOn (motive := fun _ => Option (V × Heap)) (H.get g) Option.none (fun _ _ => Option.none)
      (fun leaf _ => oif (and (Nat.beq leaf b) (!(isz g))) (some (.slice H.next 0 need (.grown size), (H.push (.cells cs g)).set g (.grp H.next H.next))))
      (fun _ => Option.none) = some r := h
    clear h
    have h := h'
    clear h'
    cases hg : H.get g with
    | grp leaf fl =>
      rw [hg] at h
      obtain ⟨h1, h⟩ := oif_some.1 h
      cases h
      rw [Bool.and_eq_true] at h1
      have hg0 : g ≠ 0 := by intro e; subst e; simp [isz] at h1
      have hgl : g < H.next := by
        rcases Nat.lt_or_ge g H.next with h2 | h2
        · exact h2
        · rw [(hr.top h2).2] at hg; cases hg
      refine ⟨rfl, c0, g, rfl, ⟨fun x => ?_, by show H.next < H.next + 1; omega, by show g < H.next + 1; omega, hg0, by omega, .inr ⟨_, _, hg⟩⟩⟩
      show (((H.push (.cells cs g)).set g (.grp H.next H.next))).get x = _
      rw [Heap.get_set, Heap.get_push]
      by_cases k1 : x = H.next
      · subst k1; rw [if_neg (by omega)]; simp
      · by_cases h2 : x = g
        · subst h2; rw [if_pos rfl, if_neg k1, if_pos rfl]
        · rw [if_neg (fun e => h2 e.symm), if_neg (fun e => k1 e.symm), if_neg k1, if_neg h2]
    | _ => rw [hg] at h; cases h
  | _ => rw [hb] at h; cases h
end
end Go.Ev
