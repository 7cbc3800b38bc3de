/- The abstract evaluator of the model: texts M N O P Pa Q R. -/
import Derived.Test.YtofkmenlcnjolaaGreatDoorE1
import Derived.Laws.IdiomStrings
import Derived.KernelRfl
import Derived.Laws.StructEq
/- The abstract evaluator, part M: slice expressions. -/
namespace Go.Ev
/-- two optional values -/
def Ro (φ : Phi) : Option V → Option Value → Prop
  | none, none => True
  | some v, some v' => Rv φ v v'
  | _, _ => False
section
variable {P : Program} {φ : Phi} {ρ : Operand → Value} {dst : Option Tmp} {ty : TypeId} {pos : String} {after : Array Edge} {guard : Option (Nat × Bool)} {T : Ty}

theorem run_bound {v : V} {v' : Value} (h : Rv φ v v') {n y : Nat} (hn : asN v = some n) (hy : n ≤ y) (code : BoundsCode) (w : World) : (Instr.sliceBound v' y code).run P w = .ok n w := by
  obtain ⟨k, rfl⟩ := asN_some hn
  cases h
  have hc : 0 ≤ (n : Int) ∧ (n : Int) ≤ (y : Int) := by omega
  simp [Instr.sliceBound, asIntOf, hy]
def bndIs (x : Option V) (d n : Nat) : Prop := match x with
  | none => n = d
  | some v => asN v = some n
theorem bnds_some {lo hi : Option V} {len top l h : Nat} (hb : bnds lo hi len top = some (l, h)) :
    bndIs hi len h ∧ bndIs lo 0 l ∧ h ≤ top ∧ l ≤ h := by
  obtain ⟨h', h1, hb⟩ := obind_some.1 hb
  obtain ⟨l', h2, hb⟩ := obind_some.1 hb
  obtain ⟨h3, hb⟩ := oif_some.1 hb
  cases hb
  rw [Bool.and_eq_true, ble_le, ble_le] at h3
  refine ⟨?_, ?_, h3.1, h3.2⟩
  · cases hi with
    | none => cases h1; rfl
    | some v => exact h1
  · cases lo with
    | none => cases h2; rfl
    | some v => exact h2
/-- without a third index -/
theorem run_bounds2 {isS : Bool} {lo hi : Option V} {lo' hi' : Option Value} (rl : Ro φ lo lo') (rh : Ro φ hi hi') {len top cap l h : Nat} (hb : bnds lo hi len top = some (l, h)) (hc : top ≤ cap) (w : World) :
    (Instr.sliceBounds isS len cap lo' hi' none).run P w = .ok (l, h, cap) w := by
  obtain ⟨h1, h2, h3, h4⟩ := bnds_some hb
  cases hi with
  | none =>
    cases hi' with
    | some v => exact rh.elim
    | none =>
      have e1 : h = len := h1
      clear h1 hb
      subst e1
      cases lo with
      | none => cases lo' with
        | some v => exact rl.elim
        | none =>
          have e2 : l = 0 := h2
          clear h2
          try clear hb
          subst e2
          simp [Instr.sliceBounds]
      | some v => cases lo' with
        | none => exact rl.elim
        | some v' => simp [Instr.sliceBounds, run_bound (P := P) rl h2 h4]
  | some u =>
    cases hi' with
    | none => exact rh.elim
    | some u' =>
      cases lo with
      | none => cases lo' with
        | some v => exact rl.elim
        | none =>
          have e2 : l = 0 := h2
          clear h2
          try clear hb
          subst e2
          simp [Instr.sliceBounds, run_bound (P := P) rh h1 (Nat.le_trans h3 hc)]
      | some v => cases lo' with
        | none => exact rl.elim
        | some v' => simp [Instr.sliceBounds, run_bound (P := P) rl h2 h4, run_bound (P := P) rh h1 (Nat.le_trans h3 hc)]
/-- with a third index -/
theorem run_bounds3 {isS : Bool} {lo hi : Option V} {lo' hi' : Option Value} (rl : Ro φ lo lo') (rh : Ro φ hi hi') (hs : hi.isSome = true) {m : V} {m' : Value} (rm : Rv φ m m') {n : Nat} (hm : asN m = some n) {len cap l h : Nat}
    (hb : bnds lo hi len n = some (l, h)) (hc : n ≤ cap) (w : World) : (Instr.sliceBounds isS len cap lo' hi' (some m')).run P w = .ok (l, h, n) w := by
  obtain ⟨h1, h2, h3, h4⟩ := bnds_some hb
  cases hi with
  | none => simp at hs
  | some u =>
    cases hi' with
    | none => exact rh.elim
    | some u' =>
      cases lo with
      | none => cases lo' with
        | some v => exact rl.elim
        | none =>
          have e2 : l = 0 := h2
          clear h2
          try clear hb
          subst e2
          simp [Instr.sliceBounds, run_bound (P := P) rm hm hc, run_bound (P := P) rh h1 h3]
      | some v => cases lo' with
        | none => exact rl.elim
        | some v' => simp [Instr.sliceBounds, run_bound (P := P) rm hm hc, run_bound (P := P) rl h2 h4, run_bound (P := P) rh h1 h3]

theorem sliceStr_sound {t : TypeId} (hd : P.underlying t = some .string) {s : List UInt8} {lo hi : Option V} {lo' hi' : Option Value} (rl : Ro φ lo lo') (rh : Ro φ hi hi') {r : NR} (hr : sliceStr s lo hi = some r) (w : World) :
    ∃ v v', r = .val v ∧ (Instr.sliceAt t (.string ⟨⟨s⟩⟩) lo' hi' none).run P w = .ok v' w ∧ Rv φ v v' := by
  obtain ⟨⟨l, h⟩, hb, hr⟩ := obind_some.1 hr
  obtain ⟨u, hu, hr⟩ := obind_some.1 hr
  cases hr
  rw [llen_eq] at hb
  have hbo := run_bounds2 (P := P) (isS := false) rl rh hb (Nat.le_refl _)
  rw [ltake?_eq, ldrop_eq] at hu
  split at hu
  · cases hu
    refine ⟨_, .string ((⟨⟨s⟩⟩ : ByteArray).extract l h), rfl, ?_, ?_⟩
    · have hsz : (⟨⟨s⟩⟩ : ByteArray).size = s.length := rfl
      simp only [Instr.sliceAt, Instr.slice, Sem.run_bind, run_underlying hd, Result.andThen_ok, hsz]
      simp [hbo]
    · have : (⟨⟨s⟩⟩ : ByteArray).extract l h = ⟨⟨(s.drop l).take (h - l)⟩⟩ := by
        apply ByteArray.ext
        simp [ByteArray.data_extract]
      rw [this]
      exact .str _
  · cases hu
/-- the slice of a row: what the model makes of it -/
theorem sliceRow_run {t e : TypeId} {n : Nat} (hT : TOk P T) (hd : T.und t = some (.slice e)) (hn : sizeT T e = some n) {a : Option Addr} {len cap : Nat} {lo' hi' mx' : Option Value} {l h m : Nat}
    {w : World} (hb : (Instr.sliceBounds true len cap lo' hi' mx').run P w = .ok (l, h, m) w) :
    (Instr.sliceAt t (.slice a len cap) lo' hi' mx').run P w = .ok (.slice (if m = l then a else a.map (·.add (l * n))) (h - l) (m - l)) w := by
  simp only [Instr.sliceAt, Instr.slice, Sem.run_bind, run_underlying (hT.und hd), Result.andThen_ok, hb, run_sizeT hT hn, Sem.run_pure]

theorem sliceKnown_rel {b o len top n : Nat} {lo hi : Option V} {l : Loc} (hb : φ b = some l) {r : NR} (hr : sliceKnown b o len top n lo hi = some r) :
    ∃ v i h, r = .val v ∧ bnds lo hi len top = some (i, h) ∧ Rv φ v (.slice (if top = i then some ⟨l.c, l.base + o, none⟩ else (some (⟨l.c, l.base + o, none⟩ : Addr)).map (·.add (i * n))) (h - i) (top - i)) := by
  obtain ⟨⟨i, h⟩, hbd, hr⟩ := obind_some.1 hr
  cases hr
  obtain ⟨_, _, h3, h4⟩ := bnds_some hbd
  refine ⟨_, i, h, rfl, hbd, ?_⟩
  by_cases e : top = i
  · subst e
    have : Nat.beq top top = true := (beq_eq _ _).2 rfl
    simp only [this, if_true]
    exact .slice hb (by show h - top ≤ top - top; omega) rfl
  · have : Nat.beq top i = false := Bool.eq_false_iff.2 (fun h => e ((beq_eq _ _).1 h))
    simp only [this, if_neg e, Option.map_some, add_none]
    have : l.base + o + i * n = l.base + (o + i * n) := by omega
    rw [this]
    exact .slice hb (by show h - i ≤ top - i; omega) rfl
theorem sliceUnk_rel {b o len cap' n : Nat} {c : Cap} (hcap : c = .opaq ∨ c = .grown n) {lo hi : Option V} {l : Loc} (hb : φ b = some l) (h1 : len ≤ cap') (h2 : capOk c cap' o l.lim) {r : NR} (hr : sliceUnk b o len c n lo hi = some r) :
    ∃ v i h, r = .val v ∧ bnds lo hi len len = some (i, h) ∧ Rv φ v (.slice (if cap' = i then some ⟨l.c, l.base + o, none⟩ else (some (⟨l.c, l.base + o, none⟩ : Addr)).map (·.add (i * n))) (h - i) (cap' - i)) := by
  obtain ⟨⟨i, h⟩, hbd, hr⟩ := obind_some.1 hr
  obtain ⟨_, _, h3, h4⟩ := bnds_some hbd
  have hcase : (i = 0 ∨ i < len) ∨ ¬ (i = 0 ∨ i < len) := Classical.em _
  rcases hcase with hc | hc
  · have e : or (isz i) (Nat.ble (Nat.succ i) len) = true := by
      simp only [isz, Bool.or_eq_true, beq_eq, ble_le]; exact hc
    simp only [e] at hr
    cases hr
    refine ⟨_, i, h, rfl, hbd, ?_⟩
    have key : (if cap' = i then some (⟨l.c, l.base + o, none⟩ : Addr) else (some (⟨l.c, l.base + o, none⟩ : Addr)).map (·.add (i * n))) = some ⟨l.c, l.base + (o + i * n), none⟩ := by
      split
      · have : i = 0 := by omega
        subst this
        simp
      · simp only [Option.map_some, add_none]
        have : l.base + o + i * n = l.base + (o + i * n) := by omega
        rw [this]
    rw [key]
    refine .slice hb (by show h - i ≤ cap' - i; omega) ?_
    rcases hcap with rfl | rfl
    · trivial
    · have h2' : o + cap' * n ≤ l.lim := h2
      show o + i * n + (cap' - i) * n ≤ l.lim
      have : (cap' - i) * n + i * n = cap' * n := by rw [← Nat.add_mul]; congr 1; omega
      omega
  · have e : or (isz i) (Nat.ble (Nat.succ i) len) = false := by
      apply Bool.eq_false_iff.2
      simp only [isz, ne_eq, Bool.or_eq_true, beq_eq, ble_le]; exact hc
    simp only [e] at hr
    cases hr
    refine ⟨_, i, h, rfl, hbd, ?_⟩
    have : h - i = 0 := by omega
    rw [this]
    split
    · exact .emp _ _
    · simp only [Option.map_some]; exact .emp _ _
end
end Go.Ev
/- The abstract evaluator, part N: slice expressions whole; builtins; conversions that make memory. -/
namespace Go.Ev
section
variable {P : Program} {φ : Phi} {ρ : Operand → Value} {dst : Option Tmp} {ty : TypeId} {pos : String} {after : Array Edge} {guard : Option (Nat × Bool)} {T : Ty}

theorem slice_ops {lo hi mx : Option Operand} {x : Operand} {xs : List (Fr → V)} (h : opds (x :: lapp (oget lo) (lapp (oget hi) (oget mx))) = some xs) {F : Fr}
    (ho : OpRel φ F ρ (x :: (lo.toList ++ hi.toList ++ mx.toList))) {g : V → Option V → Option V → Option V → Option NR} {r : NR} (hr : slice3 g lo.isSome hi.isSome mx.isSome (vals xs F) = some r) :
    ∃ a l h m, Rv φ a (ρ x) ∧ Ro φ l (lo.map ρ) ∧ Ro φ h (hi.map ρ) ∧ Ro φ m (mx.map ρ) ∧ (m.isSome = true → h.isSome = true) ∧ g a l h m = some r := by
  have hv : Rvs φ (vals xs F) ((x :: lapp (oget lo) (lapp (oget hi) (oget mx))).map ρ) := opds_some h (fun y hy f hf => ho y (by
    cases lo <;> cases hi <;> cases mx <;> exact hy) f hf)
  generalize vals xs F = l at hv hr
  cases lo <;> cases hi <;> cases mx
  · cases hv with | cons h1 h2 => cases h2; exact ⟨_, none, none, none, h1, trivial, trivial, trivial, by simp, hr⟩
  · cases hv with | cons h1 h2 => cases h2 with | cons h3 h4 => cases h4; cases hr
  · cases hv with | cons h1 h2 => cases h2 with | cons h3 h4 => cases h4; exact ⟨_, none, some _, none, h1, trivial, h3, trivial, by simp, hr⟩
  · cases hv with | cons h1 h2 => cases h2 with | cons h3 h4 => cases h4 with | cons h5 h6 => cases h6; exact ⟨_, none, some _, some _, h1, trivial, h3, h5, by simp, hr⟩
  · cases hv with | cons h1 h2 => cases h2 with | cons h3 h4 => cases h4; exact ⟨_, some _, none, none, h1, h3, trivial, trivial, by simp, hr⟩
  · cases hv with | cons h1 h2 => cases h2 with | cons h3 h4 => cases h4 with | cons h5 h6 => cases h6; cases hr
  · cases hv with | cons h1 h2 => cases h2 with | cons h3 h4 => cases h4 with | cons h5 h6 => cases h6; exact ⟨_, some _, some _, none, h1, h3, h5, trivial, by simp, hr⟩
  · cases hv with | cons h1 h2 => cases h2 with | cons h3 h4 => cases h4 with | cons h5 h6 => cases h6 with | cons h7 h8 => cases h8; exact ⟨_, some _, some _, some _, h1, h3, h5, h7, by simp, hr⟩

theorem sliceStrOp {t : TypeId} {x : Operand} {lo hi mx : Option Operand} (hd : P.underlying t = some .string) {a : V} {l h m : Option V} (ha : Rv φ a (ρ x)) (rl : Ro φ l (lo.map ρ)) (rh : Ro φ h (hi.map ρ)) (rm : Ro φ m (mx.map ρ))
    {n : Nat} {r : NR} (hs : ∃ s, a = .str s) (hr : sliceG n a l h m = some r) : PuOk P φ ρ ⟨dst, .slice t x lo hi mx, ty, pos, after, guard⟩ r := by
  intro w
  obtain ⟨s, rfl⟩ := hs
  generalize hx : ρ x = x' at ha
  cases ha
  cases m with
  | some m => cases hr
  | none =>
    cases hm : mx.map ρ with
    | some m => rw [hm] at rm; exact rm.elim
    | none =>
      obtain ⟨v, v', rfl, h1, h2⟩ := sliceStr_sound (P := P) hd rl rh hr w
      exact ⟨v', by simp only [execOp, hx, hm]; simp [h1], h2⟩

theorem sliceOp {t e : TypeId} {x : Operand} {lo hi mx : Option Operand} {n : Nat} (hT : TOk P T) (hd : T.und t = some (.slice e)) (hn : sizeT T e = some n) {a : V} {l h m : Option V} (ha : Rv φ a (ρ x)) (rl : Ro φ l (lo.map ρ)) (rh : Ro φ h (hi.map ρ)) (rm : Ro φ m (mx.map ρ))
    (hmh : m.isSome = true → h.isSome = true) {r : NR} (hs : ∀ s, a ≠ .str s) (hr : sliceG n a l h m = some r) : PuOk P φ ρ ⟨dst, .slice t x lo hi mx, ty, pos, after, guard⟩ r := by
  intro w
  generalize hx : ρ x = x' at ha
  generalize hmx : mx.map ρ = mx' at rm
  cases ha <;> first | exact absurd rfl (hs _) | (cases hr; done) | skip
  · rename_i b o len cap cap' lc hb h1 h2
    cases m with
    | none =>
      cases mx' with
      | some q => exact rm.elim
      | none =>
        cases cap with
        | known k =>
          have h2' : cap' = k := h2
          subst h2'
          obtain ⟨v, i, hh, rfl, hbd, hv⟩ := sliceKnown_rel hb (show sliceKnown b o len cap' n l h = some r from hr)
          have := sliceRow_run (P := P) hT hd hn (a := some ⟨lc.c, lc.base + o, none⟩) (run_bounds2 (isS := true) rl rh hbd (Nat.le_refl _) w)
          exact ⟨_, by simp only [execOp, hx, hmx]; rw [Sem.run_bind, this]; rfl, hv⟩
        | grown sz =>
          obtain ⟨he, hr⟩ := oif_some.1 (show oif (Nat.beq sz n) (sliceUnk b o len (.grown sz) n l h) = some r from hr)
          rw [beq_eq] at he
          subst he
          obtain ⟨v, i, hh, rfl, hbd, hv⟩ := sliceUnk_rel (.inr rfl) hb h1 h2 hr
          have := sliceRow_run (P := P) hT hd hn (a := some ⟨lc.c, lc.base + o, none⟩) (run_bounds2 (isS := true) rl rh hbd h1 w)
          exact ⟨_, by simp only [execOp, hx, hmx]; rw [Sem.run_bind, this]; rfl, hv⟩
        | opaq =>
          obtain ⟨v, i, hh, rfl, hbd, hv⟩ := sliceUnk_rel (.inl rfl) hb h1 h2 (show sliceUnk b o len .opaq n l h = some r from hr)
          have := sliceRow_run (P := P) hT hd hn (a := some ⟨lc.c, lc.base + o, none⟩) (run_bounds2 (isS := true) rl rh hbd h1 w)
          exact ⟨_, by simp only [execOp, hx, hmx]; rw [Sem.run_bind, this]; rfl, hv⟩
    | some m =>
      cases mx' with
      | none => exact rm.elim
      | some m' =>
        obtain ⟨mm, hm, hr⟩ := obind_some.1 (show obind (asN m) _ = some r from hr)
        obtain ⟨hle, hr⟩ := oif_some.1 hr
        rw [ble_le] at hle
        have hle' : mm ≤ cap' := by
          cases cap with
          | known k => have h2' : cap' = k := h2; subst h2'; exact hle
          | grown sz => exact Nat.le_trans hle h1
          | opaq => exact Nat.le_trans hle h1
        obtain ⟨v, i, hh, rfl, hbd, hv⟩ := sliceKnown_rel hb hr
        have := sliceRow_run (P := P) hT hd hn (a := some ⟨lc.c, lc.base + o, none⟩) (run_bounds3 (isS := true) rl rh (hmh rfl) rm hm hbd hle' w)
        exact ⟨_, by simp only [execOp, hx, hmx]; rw [Sem.run_bind, this]; rfl, hv⟩
  · obtain ⟨⟨i, hh⟩, hbd, hr⟩ := obind_some.1 (show obind (bnds l h 0 0) _ = some r from hr)
    obtain ⟨_, _, h3, h4⟩ := bnds_some hbd
    have e1 : hh = 0 := by omega
    have e2 : i = 0 := by omega
    subst e1
    subst e2
    cases m with
    | none =>
      cases mx' with
      | some q => exact rm.elim
      | none =>
        cases hr
        have := sliceRow_run (P := P) hT hd hn (a := none) (run_bounds2 (isS := true) rl rh hbd (Nat.le_refl _) w)
        exact ⟨_, by simp only [execOp, hx, hmx]; rw [Sem.run_bind, this]; rfl, by simpa using Rv.nils⟩
    | some m =>
      cases mx' with
      | none => exact rm.elim
      | some m' =>
        obtain ⟨mm, hm, hr⟩ := obind_some.1 hr
        obtain ⟨hz, hr⟩ := oif_some.1 hr
        cases hr
        have hz' : mm = 0 := (beq_eq _ _).1 hz
        subst hz'
        have := sliceRow_run (P := P) hT hd hn (a := none) (run_bounds3 (isS := true) rl rh (hmh rfl) rm hm hbd (Nat.le_refl _) w)
        exact ⟨_, by simp only [execOp, hx, hmx]; rw [Sem.run_bind, this]; rfl, by simpa using Rv.nils⟩
  · rename_i aa cap'
    obtain ⟨⟨i, hh⟩, hbd, hr⟩ := obind_some.1 (show obind (bnds l h 0 0) _ = some r from hr)
    obtain ⟨_, _, h3, h4⟩ := bnds_some hbd
    have e1 : hh = 0 := by omega
    have e2 : i = 0 := by omega
    subst e1
    subst e2
    cases m with
    | none =>
      cases mx' with
      | some q => exact rm.elim
      | none =>
        cases hr
        have := sliceRow_run (P := P) hT hd hn (a := some aa) (run_bounds2 (isS := true) rl rh hbd (Nat.zero_le cap') w)
        refine ⟨_, by simp only [execOp, hx, hmx]; rw [Sem.run_bind, this]; rfl, ?_⟩
        split
        · exact .emp _ _
        · exact .emp _ _
    | some m =>
      cases mx' with
      | none => exact rm.elim
      | some m' =>
        obtain ⟨mm, hm, hr⟩ := obind_some.1 hr
        obtain ⟨hz, hr⟩ := oif_some.1 hr
        cases hr
        have hz' : mm = 0 := (beq_eq _ _).1 hz
        subst hz'
        have := sliceRow_run (P := P) hT hd hn (a := some aa) (run_bounds3 (isS := true) rl rh (hmh rfl) rm hm hbd (Nat.zero_le cap') w)
        refine ⟨_, by simp only [execOp, hx, hmx]; rw [Sem.run_bind, this]; rfl, ?_⟩
        split
        · exact .emp _ _
        · exact .emp _ _

theorem sliceArrOp {t e : TypeId} {x : Operand} {lo hi mx : Option Operand} {n s : Nat} (hT : TOk P T) (hd : T.und t = some (.array s e)) (hn : sizeT T e = some n) {a : V} {l h m : Option V} (ha : Rv φ a (ρ x)) (rl : Ro φ l (lo.map ρ)) (rh : Ro φ h (hi.map ρ)) (rm : Ro φ m (mx.map ρ))
    (hmh : m.isSome = true → h.isSome = true) {r : NR} (hr : sliceArrG s n a l h m = some r) : PuOk P φ ρ ⟨dst, .slice t x lo hi mx, ty, pos, after, guard⟩ r := by
  intro w
  generalize hx : ρ x = x' at ha
  generalize hmx : mx.map ρ = mx' at rm
  cases ha <;> first | (cases hr; done) | skip
  rename_i b o lc hb
  have key : ∀ {i hh mm : Nat}, (Instr.sliceBounds false s s (lo.map ρ) (hi.map ρ) mx').run P w = .ok (i, hh, mm) w →
      (execOp ρ ⟨dst, .slice t x lo hi mx, ty, pos, after, guard⟩).run P w = .ok (.value (.slice (if mm = i then some ⟨lc.c, lc.base + o, none⟩ else (some (⟨lc.c, lc.base + o, none⟩ : Addr)).map (·.add (i * n))) (hh - i) (mm - i))) w := by
    intro i hh mm hb
    simp only [execOp, hx, hmx, Instr.sliceAt, Instr.sureAddr]
    simp only [Sem.run_bind, run_underlying (hT.und hd), Result.andThen_ok, Sem.run_pure, hb, run_sizeT hT hn]
    by_cases e : mm = i <;> simp [e]
  cases m with
  | none =>
    cases mx' with
    | some q => exact rm.elim
    | none =>
      obtain ⟨v, i, hh, rfl, hbd, hv⟩ := sliceKnown_rel hb (show sliceKnown b o s s n l h = some r from hr)
      exact ⟨_, key (run_bounds2 rl rh hbd (Nat.le_refl _) w), hv⟩
  | some m =>
    cases mx' with
    | none => exact rm.elim
    | some m' =>
      obtain ⟨mm, hm, hr⟩ := obind_some.1 (show obind (asN m) _ = some r from hr)
      obtain ⟨hle, hr⟩ := oif_some.1 hr
      rw [ble_le] at hle
      obtain ⟨v, i, hh, rfl, hbd, hv⟩ := sliceKnown_rel hb hr
      exact ⟨_, key (run_bounds3 rl rh (hmh rfl) rm hm hbd hle w), hv⟩
end
end Go.Ev
/- The abstract evaluator, part O: builtins that only look; strings to bytes; carries; structs compared. -/
namespace Go.Ev
section
variable {P : Program} {φ : Phi} {ρ : Operand → Value} {dst : Option Tmp} {ty : TypeId} {pos : String} {after : Array Edge} {guard : Option (Nat × Bool)} {T : Ty}

theorem lenS_sound {ts : Array TypeId} {t : TypeId} (h0 : ts[0]? = some t) (hd : P.underlying t = some .string) {x : Operand} {v : V} (hv : Rv φ v (ρ x)) {r : NR} (hr : lenS v = some r) :
    PuOk P φ ρ ⟨dst, .call ⟨.builtin .len, #[x], ts⟩, ty, pos, after, guard⟩ r := by
  intro w
  generalize hx : ρ x = x' at hv
  cases hv <;> first | (cases hr; done) | skip
  cases hr
  refine ⟨_, ?_, .int _ _⟩
  simp only [execOp, resolve, invoke, builtin, Builtin.len_]
  simp [hx, h0, run_underlying hd, goInt, llen_eq]
  rfl
theorem lenL_sound {ts : Array TypeId} {t e : TypeId} (h0 : ts[0]? = some t) (hd : P.underlying t = some (.slice e)) {x : Operand} {v : V} (hv : Rv φ v (ρ x)) {r : NR} (hr : lenL v = some r) :
    PuOk P φ ρ ⟨dst, .call ⟨.builtin .len, #[x], ts⟩, ty, pos, after, guard⟩ r := by
  intro w
  generalize hx : ρ x = x' at hv
  cases hv <;> first | (cases hr; done) | skip
  all_goals
    cases hr
    refine ⟨_, ?_, .int _ _⟩
    simp only [execOp, resolve, invoke, builtin, Builtin.len_]
    simp [hx, h0, run_underlying hd, goInt]
theorem lenArr_sound {ts : Array TypeId} {t e : TypeId} {n : Nat} (h0 : ts[0]? = some t) (hd : P.underlying t = some (.array n e)) {x : Operand} :
    PuOk P φ ρ ⟨dst, .call ⟨.builtin .len, #[x], ts⟩, ty, pos, after, guard⟩ (.val (.int .i64 (.ofNat n))) := by
  intro w
  refine ⟨.int .i64 n, ?_, .int _ _⟩
  simp only [execOp, resolve, invoke, builtin, Builtin.len_]
  simp [h0, run_underlying hd, goInt]
theorem cap_sound {ts : Array TypeId} {t e : TypeId} (h0 : ts[0]? = some t) (hd : P.underlying t = some (.slice e)) {x : Operand} {v : V} (hv : Rv φ v (ρ x)) {r : NR} (hr : capL v = some r) :
    PuOk P φ ρ ⟨dst, .call ⟨.builtin .cap, #[x], ts⟩, ty, pos, after, guard⟩ r := by
  intro w
  generalize hx : ρ x = x' at hv
  cases hv <;> first | (cases hr; done) | skip
  · rename_i b o len cap cap' l hb h1 h2
    cases cap <;> first | (cases hr; done) | skip
    cases hr
    have h2' : cap' = _ := h2
    subst h2'
    refine ⟨.int .i64 cap', ?_, .int _ _⟩
    simp only [execOp, resolve, invoke, builtin, Builtin.cap_]
    simp [hx, h0, run_underlying hd, goInt]
  · cases hr
    refine ⟨.int .i64 0, ?_, .int _ _⟩
    simp only [execOp, resolve, invoke, builtin, Builtin.cap_]
    simp [hx, h0, run_underlying hd, goInt]

theorem fold2_run {f : V → V → Option V} {f' : Value → Value → Sem Value} (hf : ∀ {a b c : V} {a' b' : Value}, Rv φ a a' → Rv φ b b' → f a b = some c → ∀ w, ∃ c', (f' a' b').run P w = .ok c' w ∧ Rv φ c c') (w : World) :
    ∀ {l : List V} {l' : List Value}, Rvs φ l l' → ∀ {a v : V} {a' : Value}, Rv φ a a' → List.rec (motive := fun _ => V → Option V) (fun a => some a) (fun y _ ih a => obind (f a y) ih) l a = some v →
      ∃ v', (l'.foldlM f' a').run P w = .ok v' w ∧ Rv φ v v' := by
  intro l
  induction l with
  | nil => intro l' h a v a' ha he; cases h; cases he; exact ⟨a', rfl, ha⟩
  | cons y l ih =>
    intro l' h a v a' ha he
    cases h with
    | cons h1 h2 =>
      obtain ⟨c, hc, he⟩ := obind_some.1 he
      obtain ⟨c', hc1, hc2⟩ := hf ha h1 hc w
      obtain ⟨v', hv1, hv2⟩ := ih h2 hc2 he
      refine ⟨v', ?_, hv2⟩
      rw [List.foldlM_cons, Sem.run_bind, hc1]
      exact hv1
theorem max2_run {a b c : V} {a' b' : Value} (ha : Rv φ a a') (hb : Rv φ b b') (h : max2 a b = some c) (w : World) : ∃ c', (Builtin.max2 a' b').run P w = .ok c' w ∧ Rv φ c c' := by
  cases ha <;> cases hb <;> first | (cases h; done) | skip
  rename_i k x k' y
  cases h
  refine ⟨.int k (if y > x then y else x), by simp [Builtin.max2], ?_⟩
  by_cases hh : x < y
  · have e : ilt x y = true := by rw [ilt_eq]; simpa using hh
    rw [e, if_pos hh]
    exact .int _ _
  · have e : ilt x y = false := by rw [ilt_eq]; simpa using hh
    rw [e, if_neg hh]
    exact .int _ _
theorem min2_run {a b c : V} {a' b' : Value} (ha : Rv φ a a') (hb : Rv φ b b') (h : min2 a b = some c) (w : World) : ∃ c', (Builtin.min2 a' b').run P w = .ok c' w ∧ Rv φ c c' := by
  cases ha <;> cases hb <;> first | (cases h; done) | skip
  rename_i k x k' y
  cases h
  refine ⟨.int k (if y < x then y else x), by simp [Builtin.min2], ?_⟩
  by_cases hh : y < x
  · have e : ilt y x = true := by rw [ilt_eq]; simpa using hh
    rw [e, if_pos hh]
    exact .int _ _
  · have e : ilt y x = false := by rw [ilt_eq]; simpa using hh
    rw [e, if_neg hh]
    exact .int _ _
theorem max_sound {ts : Array TypeId} {args : Array Operand} {l : List V} (hl : Rvs φ l (args.toList.map ρ)) {r : NR} (hr : foldG max2 l = some r) : PuOk P φ ρ ⟨dst, .call ⟨.builtin .max, args, ts⟩, ty, pos, after, guard⟩ r := by
  intro w
  cases l with
  | nil => cases hr
  | cons a l =>
    generalize hm : args.toList.map ρ = m at hl
    cases hl with
    | cons h1 h2 =>
      obtain ⟨v, hv, hr⟩ := obind_some.1 (show obind _ (fun v => some (NR.val v)) = some r from hr)
      cases hr
      obtain ⟨v', hv1, hv2⟩ := fold2_run (fun ha hb hc w => max2_run (P := P) ha hb hc w) w h2 h1 hv
      refine ⟨v', ?_, hv2⟩
      simp only [execOp, resolve, invoke, builtin, Builtin.max_]
      simp [hm, hv1]
theorem min_sound {ts : Array TypeId} {args : Array Operand} {l : List V} (hl : Rvs φ l (args.toList.map ρ)) {r : NR} (hr : foldG min2 l = some r) : PuOk P φ ρ ⟨dst, .call ⟨.builtin .min, args, ts⟩, ty, pos, after, guard⟩ r := by
  intro w
  cases l with
  | nil => cases hr
  | cons a l =>
    generalize hm : args.toList.map ρ = m at hl
    cases hl with
    | cons h1 h2 =>
      obtain ⟨v, hv, hr⟩ := obind_some.1 (show obind _ (fun v => some (NR.val v)) = some r from hr)
      cases hr
      obtain ⟨v', hv1, hv2⟩ := fold2_run (fun ha hb hc w => min2_run (P := P) ha hb hc w) w h2 h1 hv
      refine ⟨v', ?_, hv2⟩
      simp only [execOp, resolve, invoke, builtin, Builtin.min_]
      simp [hm, hv1]

theorem bytes_rel (s : List UInt8) : Rvs φ (lmap (fun b => V.int .u8 (.ofNat b.toNat)) s) (s.map fun b => Value.int .u8 b.toNat) := by
  induction s with
  | nil => exact .nil
  | cons b s ih => exact .cons (.int _ _) ih
theorem toBytes_sound {x : Operand} {s d e : TypeId} (hs : P.underlying s = some .string) (hd : P.underlying d = some (.slice e)) (he : P.underlying e = some (.int .u8)) {v : V} (hv : Rv φ v (ρ x)) {r : NR} (hr : toBytesG [v] = some r) :
    PuOk P φ ρ ⟨dst, .convert s d x, ty, pos, after, guard⟩ r := by
  intro w
  generalize hx : ρ x = x' at hv
  cases hv <;> first | (cases hr; done) | skip
  rename_i u
  cases hr
  have hcap : u.length ≤ grownCap w u.length 0 e := grownCap_ge w _ 0 e
  have hrun := run_bytes_of_string (P := P) w s d e ⟨⟨u⟩⟩ hs hd he
  have hsz : (⟨⟨u⟩⟩ : ByteArray).size = u.length := rfl
  rw [hsz] at hrun
  have hlen : (bytesRow ⟨⟨u⟩⟩ (grownCap w u.length 0 e)).size = grownCap w u.length 0 e := by
    simp [bytesRow, hsz]; omega
  have hrel := bytes_rel (φ := φ) u
  have hat : ∀ i, i < u.length → (bytesRow ⟨⟨u⟩⟩ (grownCap w u.length 0 e))[i]? = (u.map fun b => Value.int .u8 b.toNat)[i]? := by
    intro i hi
    rw [bytesRow_at _ _ _ (by simpa using hi)]
    simp [hi]
  generalize bytesRow ⟨⟨u⟩⟩ (grownCap w u.length 0 e) = B at *
  refine ⟨.slice (some ⟨w.heap.size, 0, none⟩) u.length (grownCap w u.length 0 e), w.drew.alloc (.cells B e (B.size, B.size + 1)), grownCap w u.length 0 e, by simp only [execOp, hx]; rw [Sem.run_bind, hrun]; rfl, ⟨by simp, fun c hc => ?_, ⟨rfl, rfl, rfl, fun h => (Same.alloc w.drew _).free h, fun c cs t fr h => (Same.alloc w.drew _).shape c cs t fr h⟩, _, rfl, ?_, fun i v hv => ?_, fun i hi => ⟨?_, ?_⟩⟩, fun ψ b hb => ?_⟩
  · show (w.heap.push _)[c]? = _
    simp [Array.getElem?_push, Nat.ne_of_lt hc]
  · have h0 := hrel.length
    rw [List.length_map] at h0
    exact Nat.le_trans (Nat.le_of_eq h0) hcap
  · obtain ⟨v', h1, h2⟩ := hrel.get i v hv
    refine ⟨v', ?_, h2⟩
    have hi : i < u.length := by
      have := (List.getElem?_eq_some_iff.1 h1).1
      simpa using this
    exact (World.cell?_alloc_mark w.drew B e (B.size, B.size + 1) i).trans ((hat i hi).trans h1)
  · exact ⟨B[i]'(by omega), (World.cell?_alloc_mark w.drew B e (B.size, B.size + 1) i).trans (by simp [hlen, hi])⟩
  · refine (World.frozen?_alloc_mark w.drew B e B.size (B.size + 1) i).trans ?_
    rw [hlen]
    simp
    omega
  · have e1 : llen u = u.length := llen_eq u
    show Rv ψ (.slice b 0 (llen u) .opaq) _
    rw [e1]
    exact .slice hb hcap trivial
end
end Go.Ev
/- The abstract evaluator, part P: carries; structs compared. -/
namespace Go.Ev
section
variable {P : Program} {φ : Phi} {ρ : Operand → Value} {dst : Option Tmp} {ty : TypeId} {pos : String} {after : Array Edge} {guard : Option (Nat × Bool)} {T : Ty}

theorem next_add : Extern.allNextRows.lookup "math/bits.Add64" = none := by kernel_rfl
theorem next_sub : Extern.allNextRows.lookup "math/bits.Sub64" = none := by kernel_rfl
theorem next_nil : Extern.allNextRows.lookup "" = none := by kernel_rfl
theorem gen_add : Extern.allGenericRows.lookup "math/bits.Add64" = none := by kernel_rfl
theorem gen_sub : Extern.allGenericRows.lookup "math/bits.Sub64" = none := by kernel_rfl
theorem typ_add : Extern.allTypedRows.lookup "math/bits.Add64" = none := by kernel_rfl
theorem typ_sub : Extern.allTypedRows.lookup "math/bits.Sub64" = none := by kernel_rfl
theorem row_add : Extern.allRows.lookup "math/bits.Add64" = Extern.MathBitsCarry.rows.lookup "math/bits.Add64" := by kernel_rfl
theorem row_sub : Extern.allRows.lookup "math/bits.Sub64" = Extern.MathBitsCarry.rows.lookup "math/bits.Sub64" := by kernel_rfl

theorem callX {f : FuncId} {fn : Func} (hρ : ρ (.func f) = .func (.func f) #[] #[]) (hf : P.funcs[f]? = some fn) (hb : fn.body = none) (hn : (fn.name == "runtime.NumGoroutine") = false) (h1 : Extern.findNext fn = none) {e : Array Value → Sem Value} (h2 : Extern.find fn = some e) {args : Array Operand} {ts : Array TypeId} {w : World} {v : Value}
    (he : (e (args.map ρ)).run P w = .ok v w) : (execOp ρ ⟨dst, .call ⟨.value (.func f), args, ts⟩, ty, pos, after, guard⟩).run P w = .ok (.value v) w := by
  simp only [execOp, resolve, hρ, Deferred.ofValue, invoke, callFunc]
  have hn' : ¬ fn.name = "runtime.NumGoroutine" := by simpa using hn
  simp [hf, hn', hb, h1, h2, he]

noncomputable def addRow (args : Array Value) : Sem Value := do
  let (x, y, c) ← Extern.MathBitsCarry.three "Add64" args
  pure (Extern.MathBitsCarry.pair ((x + y + c) % Extern.MathBitsCarry.m64) ((x + y + c) / Extern.MathBitsCarry.m64))
noncomputable def subRow (args : Array Value) : Sem Value := do
  let (x, y, b) ← Extern.MathBitsCarry.three "Sub64" args
  pure (Extern.MathBitsCarry.pair ((x + Extern.MathBitsCarry.m64 - y - b) % Extern.MathBitsCarry.m64) (if x < y + b then 1 else 0))
theorem look_add : Extern.MathBitsCarry.rows.lookup "math/bits.Add64" = some addRow := rfl
theorem look_sub : Extern.MathBitsCarry.rows.lookup "math/bits.Sub64" = some subRow := rfl
theorem three_run (nm : String) (a b c : Nat) (hc : c ≤ 1) (w : World) : (Extern.MathBitsCarry.three nm ⟨[.int .u64 (a : Int), .int .u64 (b : Int), .int .u64 (c : Int)]⟩).run P w = .ok (a, b, c) w := by
  have e : Extern.MathBitsCarry.three nm ⟨[.int .u64 (a : Int), .int .u64 (b : Int), .int .u64 (c : Int)]⟩ = (do
    let c := (← asInt (.int .u64 (c : Int))).toNat
    if c > 1 then unsupported (.noEntry ("extern/math/bits." ++ nm ++ ": a carry that is neither 0 nor 1"))
    pure ((← asInt (.int .u64 (a : Int))).toNat, (← asInt (.int .u64 (b : Int))).toNat, c) : Sem (Nat × Nat × Nat)) := rfl
  rw [e]
  simp [asInt, asIntOf]; omega

theorem nat3_some {l : List V} {t : Nat × Nat × Nat} (h : nat3 l = some t) : l = [.int .u64 (t.1 : Int), .int .u64 (t.2.1 : Int), .int .u64 (t.2.2 : Int)] := by
  have hu : ∀ {v : V} {n : Nat}, u64N v = some n → v = .int .u64 (n : Int) := by
    intro v n h
    cases v with
    | int k m => cases k <;> cases m <;> first | (cases h; done) | (cases h; rfl)
    | _ => cases h
  match l, h with
  | [a, b, c], h =>
    obtain ⟨x, hx, h⟩ := obind_some.1 (show obind (u64N a) _ = some t from h)
    obtain ⟨y, hy, h⟩ := obind_some.1 h
    obtain ⟨z, hz, h⟩ := obind_some.1 h
    cases h
    rw [hu hx, hu hy, hu hz]
  | [], h => cases h
  | [_], h => cases h
  | [_, _], h => cases h
  | _ :: _ :: _ :: _ :: _, h => cases h
theorem extern_sound {f : FuncId} {fn : Func} (hρ : ρ (.func f) = .func (.func f) #[] #[]) (hf : P.funcs[f]? = some fn) (hb : fn.body = none) (ho : fn.origin = "") {g : List V → Option NR} (hg : externG fn.name = some g) {args : Array Operand} {ts : Array TypeId}
    {l : List V} (hl : Rvs φ l (args.toList.map ρ)) {r : NR} (hr : g l = some r) : PuOk P φ ρ ⟨dst, .call ⟨.value (.func f), args, ts⟩, ty, pos, after, guard⟩ r := by
  intro w
  have hargs : args.map ρ = ⟨args.toList.map ρ⟩ := by apply Array.ext'; simp
  unfold externG at hg
  split at hg
  · rename_i hname
    cases hg
    obtain ⟨t, ht, hr⟩ := obind_some.1 (show obind (nat3 l) _ = some r from hr)
    obtain ⟨hc, hr⟩ := oif_some.1 hr
    cases hr
    rw [ble_le] at hc
    have := nat3_some ht
    subst this
    have hm : args.toList.map ρ = [.int .u64 (t.1 : Int), .int .u64 (t.2.1 : Int), .int .u64 (t.2.2 : Int)] := by
      generalize args.toList.map ρ = m at hl
      cases hl with | cons h1 h2 => cases h2 with | cons h3 h4 => cases h4 with | cons h5 h6 => cases h6; cases h1; cases h3; cases h5; rfl
    rw [hm] at hargs
    refine ⟨.tuple ⟨[.int .u64 (((t.1 + t.2.1 + t.2.2) % 18446744073709551616 : Nat) : Int), .int .u64 (((t.1 + t.2.1 + t.2.2) / 18446744073709551616 : Nat) : Int)]⟩, ?_, .tup (.cons (.int _ _) (.cons (.int _ _) .nil))⟩
    have hrow : Extern.find fn = some addRow := by
      simp [Extern.find, hname, gen_add, typ_add, row_add, look_add]
    refine callX hρ hf hb (by rw [hname]; decide) (by simp [Extern.findNext, hname, ho, next_add, next_nil]) hrow ?_
    rw [hargs]
    simp only [addRow, Sem.run_bind, three_run _ _ _ _ hc, Result.andThen_ok, Sem.run_pure]
    rfl
  · split at hg
    · rename_i hname
      cases hg
      obtain ⟨t, ht, hr⟩ := obind_some.1 (show obind (nat3 l) _ = some r from hr)
      obtain ⟨hc, hr⟩ := oif_some.1 hr
      cases hr
      rw [ble_le] at hc
      have := nat3_some ht
      subst this
      have hm : args.toList.map ρ = [.int .u64 (t.1 : Int), .int .u64 (t.2.1 : Int), .int .u64 (t.2.2 : Int)] := by
        generalize args.toList.map ρ = m at hl
        cases hl with | cons h1 h2 => cases h2 with | cons h3 h4 => cases h4 with | cons h5 h6 => cases h6; cases h1; cases h3; cases h5; rfl
      rw [hm] at hargs
      have hrow : Extern.find fn = some subRow := by
        simp [Extern.find, hname, gen_sub, typ_sub, row_sub, look_sub]
      refine ⟨.tuple ⟨[.int .u64 (((t.1 + 18446744073709551616 - t.2.1 - t.2.2) % 18446744073709551616 : Nat) : Int), .int .u64 ((if t.1 < t.2.1 + t.2.2 then 1 else 0 : Nat) : Int)]⟩, ?_, ?_⟩
      · refine callX hρ hf hb (by rw [hname]; decide) (by simp [Extern.findNext, hname, ho, next_sub, next_nil]) hrow ?_
        rw [hargs]
        simp only [subRow, Sem.run_bind, three_run _ _ _ _ hc, Result.andThen_ok, Sem.run_pure]
        rfl
      · refine .tup (.cons (.int _ _) (.cons ?_ .nil))
        by_cases h : t.2.1 + t.2.2 ≤ t.1
        · have e : Nat.ble (Nat.add t.2.1 t.2.2) t.1 = true := (ble_le _ _).2 h
          rw [e, if_neg (by omega)]
          exact .int _ _
        · have e : Nat.ble (Nat.add t.2.1 t.2.2) t.1 = false := Bool.eq_false_iff.2 (fun hh => h ((ble_le _ _).1 hh))
          rw [e, if_pos (by omega)]
          exact .int _ _
    · cases hg
end
end Go.Ev
/- The abstract evaluator, part Pa: structs and arrays compared. -/
namespace Go.Ev
section
variable {P : Program} {φ : Phi} {ρ : Operand → Value} {dst : Option Tmp} {ty : TypeId} {pos : String} {after : Array Edge} {guard : Option (Nat × Bool)} {T : Ty}

theorem isAgg_flat (hT : TOk P T) {t : TypeId} {d : TypeDesc} (hd : T.und t = some d) (hf : isFlat d = true) (w : World) : (isAgg t).run P w = .ok false w := by
  have hu := run_underlying (hT.und hd) w
  cases d <;> first | (cases hf; done) | simp [isAgg, hu]
theorem part_flat (hT : TOk P T) {t : TypeId} {d : TypeDesc} (hd : T.und t = some d) (hf : isFlat d = true) {cs : Array Value} {i : Nat} {v : Value} (h : cs[i]? = some v) (w : World) : (part t cs i).run P w = .ok v w := by
  simp [part, isAgg_flat hT hd hf, h]
theorem cellEq_run (hT : TOk P T) {t : TypeId} {d : TypeDesc} (hd : T.und t = some d) {x y : V} {x' y' : Value} (hx : Rv φ x x') (hy : Rv φ y y') {r : Bool} (h : cellEq d x y = some r) (n : Nat) (w : World) : (Op.equalIn (n + 1) t x' y').run P w = .ok r w := by
  have hu := run_underlying (hT.und hd) w
  cases d <;> first | (cases h; done) | skip
  case bool =>
    cases hx <;> first | (cases h; done) | skip
    cases hy <;> first | (cases h; done) | skip
    rename_i a b
    cases h
    simp only [Op.equalIn, Sem.run_bind, hu, Result.andThen_ok, Sem.run_pure]
    cases a <;> cases b <;> rfl
  case int =>
    cases hx <;> first | (cases h; done) | skip
    cases hy <;> first | (cases h; done) | skip
    rename_i k a k' b
    obtain ⟨h1, h⟩ := oif_some.1 (show oif (keq k k') (some (ieq a b)) = some r from h)
    cases h
    rw [keq_eq] at h1
    have h1' : k = k' := by simpa using h1
    simp only [Op.equalIn, Sem.run_bind, hu, Result.andThen_ok, h1', if_true, Sem.run_pure, ieq_eq]
    rfl
  case string =>
    cases hx <;> first | (cases h; done) | skip
    cases hy <;> first | (cases h; done) | skip
    rename_i a b
    cases h
    simp only [Op.equalIn, Sem.run_bind, hu, Result.andThen_ok, Sem.run_pure]
    rw [lall2_ueq, beq_toListBytes, ByteArray.toList_eq, ByteArray.toList_eq]
theorem cellEq_flat {d : TypeDesc} {x y : V} {r : Bool} (h : cellEq d x y = some r) : isFlat d = true := by
  cases d <;> first | rfl | cases h

theorem cellsEq_cons {d : TypeDesc} {ds : List TypeDesc} {xs ys : List V} {r : Bool} (h : cellsEq (d :: ds) xs ys = some r) :
    ∃ x xs' y ys' a b, xs = x :: xs' ∧ ys = y :: ys' ∧ cellEq d x y = some a ∧ cellsEq ds xs' ys' = some b ∧ r = and a b := by
  cases xs with
  | nil => cases h
  | cons x xs => cases ys with
    | nil => cases h
    | cons y ys =>
      obtain ⟨a, h1, h⟩ := obind_some.1 (show obind (cellEq d x y) (fun r => obind (cellsEq ds xs ys) fun s => some (and r s)) = some r from h)
      obtain ⟨b, h2, h⟩ := obind_some.1 h
      cases h
      exact ⟨x, xs, y, ys, a, b, rfl, rfl, h1, h2, rfl⟩
theorem fldKinds_cons {f : Field} {fs : List Field} {i : Nat} {ds : List TypeDesc} (h : fldKinds T (f :: fs) i = some ds) :
    ∃ d r, f.name ≠ "_" ∧ f.offset = i ∧ T.und f.type = some d ∧ isFlat d = true ∧ fldKinds T fs (i + 1) = some r ∧ ds = d :: r := by
  obtain ⟨h1, h⟩ := oif_some.1 (show oif (and (!(f.name == "_")) (Nat.beq f.offset i)) (obind (T.und f.type) fun d => oif (isFlat d) <| obind (fldKinds T fs (i + 1)) fun r => some (d :: r)) = some ds from h)
  rw [Bool.and_eq_true, beq_eq] at h1
  obtain ⟨d, h2, h⟩ := obind_some.1 h
  obtain ⟨h3, h⟩ := oif_some.1 h
  obtain ⟨r, h4, h⟩ := obind_some.1 h
  cases h
  exact ⟨d, r, by simpa using h1.1, h1.2, h2, h3, h4, rfl⟩

theorem drop_cons_get {α : Type} {l : List α} {i : Nat} {a : α} {r : List α} (h : l.drop i = a :: r) : l[i]? = some a ∧ l.drop (i + 1) = r := by
  have h1 : (l.drop i)[0]? = some a := by rw [h]; rfl
  rw [List.getElem?_drop] at h1
  refine ⟨h1, ?_⟩
  have := congrArg (List.drop 1) h
  rw [List.drop_drop] at this
  simpa using this
theorem Rvs.cons_inv {x : V} {xs : List V} {l : List Value} (h : Rvs φ (x :: xs) l) : ∃ x' xs', l = x' :: xs' ∧ Rv φ x x' ∧ Rvs φ xs xs' := by
  cases h with
  | cons a b => exact ⟨_, _, rfl, a, b⟩

theorem fields_run (hT : TOk P T) (n : Nat) (xs' ys' : List Value) (w : World) : ∀ (fs : List Field) (i : Nat) (ds : List TypeDesc) (xs ys : List V) (r : Bool), fldKinds T fs i = some ds → Rvs φ xs (xs'.drop i) → Rvs φ ys (ys'.drop i) → cellsEq ds xs ys = some r →
    (Op.eqFields (n + 1) ⟨xs'⟩ ⟨ys'⟩ fs).run P w = .ok r w := by
  intro fs
  induction fs with
  | nil =>
    intro i ds xs ys r hk _ _ h
    cases hk
    cases xs <;> cases ys <;> cases h
    rfl
  | cons f fs ih =>
    intro i ds xs ys r hk hx hy h
    obtain ⟨d, q, h1, h2, h3, h4, h5, rfl⟩ := fldKinds_cons hk
    obtain ⟨x, xs, y, ys, a, b, rfl, rfl, e1, e2, rfl⟩ := cellsEq_cons h
    obtain ⟨x', xr, hxe, hx1, hx2⟩ := hx.cons_inv
    obtain ⟨y', yr, hye, hy1, hy2⟩ := hy.cons_inv
    obtain ⟨gx, dx⟩ := drop_cons_get hxe
    obtain ⟨gy, dy⟩ := drop_cons_get hye
    subst h2
    have ihh := ih (f.offset + 1) q xs ys b h5 (by rw [dx]; exact hx2) (by rw [dy]; exact hy2) e2
    have p1 := part_flat hT h3 h4 (cs := ⟨xs'⟩) (i := f.offset) (v := x') (by simpa using gx) w
    have p2 := part_flat hT h3 h4 (cs := ⟨ys'⟩) (i := f.offset) (v := y') (by simpa using gy) w
    have p3 := cellEq_run hT h3 hx1 hy1 e1 n w
    simp only [Op.eqFields, ne_eq, h1, not_false_eq_true, if_true, Sem.run_bind, p1, p2, p3, Result.andThen_ok]
    cases a
    · simp
    · simpa using ihh
theorem rep1_length {α : Type} (a : α) (n : Nat) : (rep1 a n).length = n := by
  induction n with
  | zero => rfl
  | succ n ih => exact congrArg (· + 1) ih

theorem items_run (hT : TOk P T) {e : TypeId} {d : TypeDesc} (hd : T.und e = some d) (hf : isFlat d = true) (n : Nat) (xs' ys' : List Value) (w : World) : ∀ (len i : Nat) (xs ys : List V) (r : Bool), Rvs φ xs (xs'.drop i) → Rvs φ ys (ys'.drop i) → cellsEq (rep1 d len) xs ys = some r →
    (do let q ← forIn (List.range' i len) ((none : Option Bool), ()) (fun j _ => do
          let b ← Op.equalIn (n + 1) e (← part e ⟨xs'⟩ (j * 1)) (← part e ⟨ys'⟩ (j * 1))
          if (!b) = true then pure (ForInStep.done (some false, ())) else pure (ForInStep.yield (none, ())))
        match q.1 with
        | some a => pure a
        | none => pure true : Sem Bool).run P w = .ok r w := by
  intro len
  induction len with
  | zero =>
    intro i xs ys r _ _ h
    have h' : cellsEq [] xs ys = some r := h
    cases xs <;> cases ys <;> cases h'
    simp
  | succ len ih =>
    intro i xs ys r hx hy h
    obtain ⟨x, xs, y, ys, a, b, rfl, rfl, e1, e2, rfl⟩ := cellsEq_cons (show cellsEq (d :: rep1 d len) xs ys = some r from h)
    obtain ⟨x', xr, hxe, hx1, hx2⟩ := hx.cons_inv
    obtain ⟨y', yr, hye, hy1, hy2⟩ := hy.cons_inv
    obtain ⟨gx, dx⟩ := drop_cons_get hxe
    obtain ⟨gy, dy⟩ := drop_cons_get hye
    have ihh := ih (i + 1) xs ys b (by rw [dx]; exact hx2) (by rw [dy]; exact hy2) e2
    have p1 := part_flat hT hd hf (cs := ⟨xs'⟩) (i := i * 1) (v := x') (by simpa using gx) w
    have p2 := part_flat hT hd hf (cs := ⟨ys'⟩) (i := i * 1) (v := y') (by simpa using gy) w
    have p3 := cellEq_run hT hd hx1 hy1 e1 n w
    rw [List.range'_succ, List.forIn_cons]
    simp only [Sem.run_bind, p1, p2, p3, Result.andThen_ok] at ihh ⊢
    cases a
    · simp
    · simpa using ihh

theorem aggEq_run (hT : TOk P T) {t : TypeId} {ds : List TypeDesc} (hk : aggKinds T t = some ds) {xs ys : List V} {xs' ys' : List Value} (hx : Rvs φ xs xs') (hy : Rvs φ ys ys') {r : Bool} (h : cellsEq ds xs ys = some r) (w : World) :
    (Op.equal t (.agg ⟨xs'⟩) (.agg ⟨ys'⟩)).run P w = .ok r w := by
  obtain ⟨d, hd, hk⟩ := obind_some.1 (show obind (T.und t) _ = some ds from hk)
  have hu := hT.und hd
  unfold Op.equal
  cases d <;> first | (cases hk; done) | skip
  case struct fs =>
    obtain ⟨h1, hk⟩ := oif_some.1 (show oif (T.eqOk t) (fldKinds T fs.toList 0) = some ds from hk)
    have hfo : P.fieldsOf t = fs := by simp [Program.fieldsOf, hu]
    rw [show Op.maxDepth = 9998 + 1 + 1 from rfl, run_equalIn_struct w _ t _ _ (by rw [hfo]; exact hu) (hT.eq t h1), hfo]
    exact fields_run hT 9998 xs' ys' w fs.toList 0 ds xs ys r hk hx hy h
  case array n e =>
    obtain ⟨d2, hd2, hk⟩ := obind_some.1 (show obind (T.und e) _ = some ds from hk)
    obtain ⟨h1, hk⟩ := oif_some.1 hk
    obtain ⟨i, h2, hk⟩ := obind_some.1 hk
    obtain ⟨h3, hk⟩ := oif_some.1 hk
    cases hk
    rw [beq_eq] at h3
    have hs : (sizeOf e).run P w = .ok 1 w := by
      have := run_info (hT.info e i h2) w
      simp [sizeOf, this, h3]
    rw [show Op.maxDepth = 9998 + 1 + 1 from rfl]
    have := items_run hT hd2 h1 9998 xs' ys' w n 0 xs ys r hx hy h
    unfold Op.equalIn
    simp only [Sem.run_bind, run_underlying hu, Result.andThen_ok, hs]
    simp at this ⊢
    refine Eq.trans ?_ this
    congr 1
    funext a w'
    obtain ⟨a1, a2⟩ := a
    cases a1 <;> rfl

/-- nothing to be guarded -/
theorem guard_flat (hT : TOk P T) {t : TypeId} {d : TypeDesc} (hd : T.und t = some d) (hf : isFlat d = true) (n : Nat) (x y : Value) (w : World) : (Op.eqGuardIn (n + 1) t x y).run P w = .ok false w := by
  have hu := run_underlying (hT.und hd) w
  cases d <;> first | (cases hf; done) | simp [Op.eqGuardIn, hu]
theorem guard_fields (hT : TOk P T) (n : Nat) (xs' ys' : List Value) (w : World) : ∀ (fs : List Field) (i : Nat) (ds : List TypeDesc) (xs ys : List V) (r : Bool), fldKinds T fs i = some ds → Rvs φ xs (xs'.drop i) → Rvs φ ys (ys'.drop i) → cellsEq ds xs ys = some r →
    (do let q ← forIn fs ((none : Option Bool), ()) (fun f _ => do
          if f.name ≠ "_" then do
            let b ← Op.eqGuardIn (n + 1) f.type (← part f.type ⟨xs'⟩ f.offset) (← part f.type ⟨ys'⟩ f.offset)
            if b = true then pure (ForInStep.done (some true, ())) else pure (ForInStep.yield (none, ()))
          else pure (ForInStep.yield (none, ())))
        match q.1 with
        | some a => pure a
        | none => pure false : Sem Bool).run P w = .ok false w := by
  intro fs
  induction fs with
  | nil => intro i ds xs ys r _ _ _ _; simp
  | cons f fs ih =>
    intro i ds xs ys r hk hx hy h
    obtain ⟨d, q, h1, h2, h3, h4, h5, rfl⟩ := fldKinds_cons hk
    obtain ⟨x, xs, y, ys, a, b, rfl, rfl, e1, e2, rfl⟩ := cellsEq_cons h
    obtain ⟨x', xr, hxe, hx1, hx2⟩ := hx.cons_inv
    obtain ⟨y', yr, hye, hy1, hy2⟩ := hy.cons_inv
    obtain ⟨gx, dx⟩ := drop_cons_get hxe
    obtain ⟨gy, dy⟩ := drop_cons_get hye
    subst h2
    have ihh := ih (f.offset + 1) q xs ys b h5 (by rw [dx]; exact hx2) (by rw [dy]; exact hy2) e2
    have p1 := part_flat hT h3 h4 (cs := ⟨xs'⟩) (i := f.offset) (v := x') (by simpa using gx) w
    have p2 := part_flat hT h3 h4 (cs := ⟨ys'⟩) (i := f.offset) (v := y') (by simpa using gy) w
    have p3 := guard_flat hT h3 h4 n x' y' w
    rw [List.forIn_cons]
    simp only [ne_eq, h1, not_false_eq_true, if_true, Sem.run_bind, p1, p2, p3, Result.andThen_ok, Bool.false_eq_true, if_false, Sem.run_pure] at ihh ⊢
    exact ihh
theorem structEq_sound (hT : TOk P T) {op : BinOp} {t yt : TypeId} {x y : Operand} {neg : Bool} (hop : op = (if neg then .neq else .eql)) {fs : Array Field} (hd : T.und t = some (.struct fs)) {ds : List TypeDesc} (hk : aggKinds T t = some ds) {a b : V} (ha : Rv φ a (ρ x)) (hb : Rv φ b (ρ y)) {r : NR} (h : aggEqG ds neg [a, b] = some r) :
    PuOk P φ ρ ⟨dst, .binOp op t x y yt, ty, pos, after, guard⟩ r := by
  generalize hx : ρ x = x' at ha
  generalize hy : ρ y = y' at hb
  cases ha <;> first | (cases h; done) | skip
  cases hb <;> first | (cases h; done) | skip
  rename_i xs xs' h1 ys ys' h2
  obtain ⟨q, h3, h⟩ := obind_some.1 (show obind (cellsEq ds xs ys) (fun r => bpu (Bool.casesOn (motive := fun _ => Bool) neg r (!r))) = some r from h)
  cases h
  intro w
  have hu := hT.und hd
  have he := aggEq_run hT hk h1 h2 h3 w
  obtain ⟨d', hd', hk'⟩ := obind_some.1 (show obind (T.und t) _ = some ds from hk)
  rw [hd] at hd'
  cases hd'
  obtain ⟨h4, hk'⟩ := oif_some.1 (show oif (T.eqOk t) (fldKinds T fs.toList 0) = some ds from hk')
  have hg : (Op.eqGuardIn Op.maxDepth t (.agg ⟨xs'⟩) (.agg ⟨ys'⟩)).run P w = .ok false w := by
    have := guard_fields hT 9998 xs' ys' w fs.toList 0 ds xs ys q hk' h1 h2 h3
    rw [show Op.maxDepth = 9998 + 1 + 1 from rfl]
    unfold Op.eqGuardIn
    simp only [Sem.run_bind, run_underlying hu, Result.andThen_ok]
    rw [← Array.forIn_toList]
    simp at this ⊢
    refine Eq.trans ?_ this
    congr 1
    funext a w'
    obtain ⟨a1, a2⟩ := a
    cases a1 <;> rfl
  have hgd : (eqGuard op t x y (.agg ⟨xs'⟩) (.agg ⟨ys'⟩)).run P w = .ok () w := by
    unfold eqGuard
    cases neg <;> simp only [hop, Bool.false_eq_true, if_false, if_true] <;> simp only [Sem.run_bind, run_program, Result.andThen_ok, Sem.run_ite, hg] <;> split <;> simp
  refine ⟨.bool (Bool.casesOn (motive := fun _ => Bool) neg q (!q)), ?_, .bool _⟩
  simp only [execOp, hx, hy, Sem.run_bind, hgd, Result.andThen_ok]
  cases neg
  · simp only [hop, Bool.false_eq_true, if_false, binOp]
    simp [he]
  · simp only [hop, if_true, binOp]
    simp [he]
end
end Go.Ev
/- The abstract evaluator, part Q: every operation that neither reads nor writes memory. -/
namespace Go.Ev
def NOk (P : Program) (N : Fns) : Prop := ∀ f fn, N.get none f = some fn → P.funcs[f]? = some fn
theorem obind_eq {α β : Type} {x : Option α} {f : α → Option β} {y : β} (h : obind x f = some y) : ∃ a, x = some a ∧ f a = some y := obind_some.1 h
section
variable {P : Program} {φ : Phi} {ρ : Operand → Value} {T : Ty} {N : Fns} {F : Fr}

theorem one_rel {x : Operand} {f : Fr → V} (ho : OpRel φ F ρ [x]) (h : opd x = some f) : Rv φ (f F) (ρ x) := ho x (by simp) f h
theorem two_rel {x y : Operand} {xs : List (Fr → V)} (ho : OpRel φ F ρ [x, y]) (h : opds [x, y] = some xs) : ∃ a b, vals xs F = [a, b] ∧ Rv φ a (ρ x) ∧ Rv φ b (ρ y) := by
  have := opds_some h ho
  generalize vals xs F = l at this
  cases this with
  | cons h1 h2 => cases h2 with
    | cons h3 h4 => cases h4; exact ⟨_, _, rfl, h1, h3⟩
theorem lk {α : Type} {a : Array α} {i : Nat} {x : α} (h : lget? a.toList i = some x) : a[i]? = some x := by rw [lget?_eq] at h; simpa using h

theorem pu_bin {op : BinOp} {t yt : TypeId} {x y : Operand} {dst : Option Tmp} {ty : TypeId} {pos : String} {after : Array Edge} {guard : Option (Nat × Bool)} (hT : TOk P T) {xs ys : List (Fr → V)} {g : List V → Option NR}
    (h : opds [x, y] = some ys) (hc : binC T op t ys = .pu xs g) (ho : OpRel φ F ρ [x, y]) {r : NR} (hr : g (vals xs F) = some r) : PuOk P φ ρ ⟨dst, .binOp op t x y yt, ty, pos, after, guard⟩ r := by
  unfold binC at hc
  obtain ⟨a, b, hv, ha, hb⟩ := two_rel ho h
  split at hc
  · rename_i k hd
    split at hc
    · rename_i f hf
      cases hc
      rw [hv] at hr
      generalize hx : ρ x = x' at ha
      generalize hy : ρ y = y' at hb
      cases ha <;> first | (cases hr; done) | skip
      cases hb <;> first | (cases hr; done) | skip
      exact int_sound hf hr hx hy
    · cases hc
  · split at hc
    · rename_i f hf
      cases hc
      rw [hv] at hr
      generalize hx : ρ x = x' at ha
      generalize hy : ρ y = y' at hb
      cases ha <;> first | (cases hr; done) | skip
      cases hb <;> first | (cases hr; done) | skip
      exact str_sound hf hr hx hy
    · cases hc
  · rename_i fs hd
    split at hc
    · rename_i ds hk
      split at hc
      · cases hc
        rw [hv] at hr
        exact structEq_sound (neg := false) hT rfl hd hk ha hb hr
      · cases hc
        rw [hv] at hr
        exact structEq_sound (neg := true) hT rfl hd hk ha hb hr
      · cases hc
    · cases hc
  · rename_i d h1 h2 h3 hd
    have hfin : ∀ neg, op = (if neg then .neq else .eql) → eqD neg d (vals ys F) = some r → PuOk P φ ρ ⟨dst, .binOp op t x y yt, ty, pos, after, guard⟩ r := by
      intro neg hop hr
      rw [hv] at hr
      obtain ⟨hfit, hr⟩ := oif_some.1 (show oif (fitsD d a) (eqG neg [a, b]) = some r from hr)
      refine eq_sound hop (hT.und hd) ha hb ?_ hfit hr rfl rfl
      cases d <;> simp [fitsD] at hfit ⊢
    split at hc
    · cases hc; exact hfin false rfl hr
    · cases hc; exact hfin true rfl hr
    · cases hc
  · cases hc

theorem pu_conv {s d : TypeId} {x : Operand} {dst : Option Tmp} {ty : TypeId} {pos : String} {after : Array Edge} {guard : Option (Nat × Bool)} (hT : TOk P T) {f : Fr → V} {xs : List (Fr → V)} {g : List V → Option NR}
    (h : opd x = some f) (hc : convC T s d [f] = .pu xs g) (ho : OpRel φ F ρ [x]) {r : NR} (hr : g (vals xs F) = some r) : PuOk P φ ρ ⟨dst, .convert s d x, ty, pos, after, guard⟩ r := by
  have hx := one_rel ho h
  unfold convC at hc
  split at hc
  · rename_i k k' hs hd
    cases hc
    have hr' : (match [f F] with | [.int _ n] => ipu k' (wrapK k' n) | _ => none) = some r := hr
    generalize f F = v at hx hr'
    generalize hy : ρ x = y at hx
    cases hx <;> first | (cases hr'; done) | skip
    cases hr'
    exact convInt_sound hy (hT.und hs) (hT.und hd)
  · rename_i hs hd
    cases hc
    have hr' : (match [f F] with | [.str s] => some (NR.val (.str s)) | _ => none) = some r := hr
    generalize f F = v at hx hr'
    generalize hy : ρ x = y at hx
    cases hx <;> first | (cases hr'; done) | skip
    cases hr'
    exact convStr_sound hy (hT.und hs) (hT.und hd)
  · rename_i e hs hd
    split at hc
    · rename_i he
      cases hc
      exact toBytes_sound (hT.und hs) (hT.und hd) (hT.und he) hx hr
    · cases hc
  · split at hc
    · cases hc
    · cases hc
  · cases hc
end
end Go.Ev
/- The abstract evaluator, part R: the dispatcher of part Q. -/
namespace Go.Ev
section
variable {P : Program} {φ : Phi} {ρ : Operand → Value} {T : Ty} {N : Fns} {F : Fr}

theorem three_rel {x y z : Operand} {xs : List (Fr → V)} (ho : OpRel φ F ρ [x, y, z]) (h : opds [x, y, z] = some xs) : ∃ a b c, vals xs F = [a, b, c] ∧ Rv φ a (ρ x) ∧ Rv φ b (ρ y) ∧ Rv φ c (ρ z) := by
  have := opds_some h ho
  generalize vals xs F = l at this
  cases this with
  | cons h1 h2 => cases h2 with
    | cons h3 h4 => cases h4 with
      | cons h5 h6 => cases h6; exact ⟨_, _, _, rfl, h1, h3, h5⟩

theorem pu_builtin {b : Builtin} {args : Array Operand} {ts : Array TypeId} {dst : Option Tmp} {ty : TypeId} {pos : String} {after : Array Edge} {guard : Option (Nat × Bool)} (hT : TOk P T) {ys xs : List (Fr → V)} {g : List V → Option NR}
    (h : opds args.toList = some ys) (hc : builtinC T b ts.toList ys = .pu xs g) (ho : OpRel φ F ρ args.toList) {r : NR} (hr : g (vals xs F) = some r) : PuOk P φ ρ ⟨dst, .call ⟨.builtin b, args, ts⟩, ty, pos, after, guard⟩ r := by
  have hc := ofO_ne hc (by simp)
  obtain ⟨t, ht, hc⟩ := obind_some.1 hc
  obtain ⟨d, hd, hc⟩ := obind_some.1 hc
  have ht' := lk ht
  have hv := opds_some h ho
  have hun : ∀ {f : V → Option NR}, un f (vals ys F) = some r → ∃ x v, args = #[x] ∧ Rv φ v (ρ x) ∧ f v = some r := by
    intro f hh
    generalize vals ys F = l at hv hh
    obtain ⟨m⟩ := args
    match l, hh with
    | [v], hh =>
      match m with
      | [] => cases hv
      | [x] => cases hv with | cons h1 h2 => exact ⟨x, v, rfl, h1, hh⟩
      | _ :: _ :: _ => cases hv with | cons h1 h2 => cases h2
    | [], hh => cases hh
    | _ :: _ :: _, hh => cases hh
  cases b <;> simp only [reduceCtorEq] at hc
  case append =>
    split at hc
    · obtain ⟨i, _, hc⟩ := obind_some.1 hc
      obtain ⟨z, _, hc⟩ := obind_some.1 hc
      obtain ⟨zs, _, hc⟩ := obind_some.1 hc
      obtain ⟨_, hc⟩ := oif_some.1 hc
      obtain ⟨_, hc⟩ := oif_some.1 hc
      cases hc
    · cases hc
  case cap =>
    split at hc
    · cases hc
      obtain ⟨x, v, rfl, hx, hr⟩ := hun hr
      exact cap_sound ht' (hT.und hd) hx hr
    · cases hc
  case copy =>
    split at hc
    · obtain ⟨s, _, hc⟩ := obind_some.1 hc
      cases hc
    · cases hc
  case len =>
    split at hc
    · cases hc
      obtain ⟨x, v, rfl, hx, hr⟩ := hun hr
      exact lenS_sound ht' (hT.und hd) hx hr
    · cases hc
      obtain ⟨x, v, rfl, hx, hr⟩ := hun hr
      exact lenL_sound ht' (hT.und hd) hx hr
    · cases hc
      obtain ⟨x, v, rfl, hx, hr⟩ := hun hr
      cases hr
      exact lenArr_sound ht' (hT.und hd)
    · cases hc
    · cases hc
  case max => cases hc; exact max_sound hv hr
  case min => cases hc; exact min_sound hv hr

theorem pu_sound (hT : TOk P T) (hN : NOk P N) (hρ : ∀ f, ρ (.func f) = .func (.func f) #[] #[]) (o : Oper) {xs : List (Fr → V)} {g : List V → Option NR} (hc : cop N T o.op = .pu xs g) (ho : OpRel φ F ρ o.op.operands.toList) {r : NR} (hr : g (vals xs F) = some r) : PuOk P φ ρ o r := by
  obtain ⟨dst, op, ty, pos, after, guard⟩ := o
  simp only at hc ho
  cases op <;> simp only [cop, reduceCtorEq] at hc <;> simp only [Op.operands] at ho
  case move x =>
    obtain ⟨f, hf, hc⟩ := obind_some.1 (ofO_ne hc (by simp))
    cases hc
    cases hr
    exact move_sound (one_rel ho hf)
  case assign x =>
    obtain ⟨f, hf, hc⟩ := obind_some.1 (ofO_ne hc (by simp))
    cases hc
  case pick c x y =>
    obtain ⟨fs, hf, hc⟩ := obind_some.1 (ofO_ne hc (by simp))
    cases hc
    obtain ⟨a, b, d, hv, h1, h2, h3⟩ := three_rel ho hf
    rw [hv] at hr
    generalize hq : ρ c = c' at h1
    cases h1 <;> first | (cases hr; done) | skip
    rename_i t
    cases t
    · cases hr
      exact pick_sound hq (by simpa using h3)
    · cases hr
      exact pick_sound hq (by simpa using h2)
  case alloc t =>
    obtain ⟨zs, hz, hc⟩ := obind_some.1 (ofO_ne hc (by simp))
    cases hc
    cases hr
    exact alloc_sound hT hz
  case box t x =>
    obtain ⟨f, hf, hc⟩ := obind_some.1 (ofO_ne hc (by simp))
    cases hc
    obtain ⟨hk, hr⟩ := oif_some.1 (show oif (kn (f F)) (some (NR.new (cellsOf (f F)) .ptr)) = some r from hr)
    cases hr
    exact box_sound (one_rel ho hf) hk
  case makeMap t q => cases q <;> cases hc
  case lookup t x i ok =>
    obtain ⟨_, _, hc⟩ := obind_some.1 (ofO_ne hc (by simp))
    obtain ⟨d, _, hc⟩ := obind_some.1 hc
    cases d <;> simp only [reduceCtorEq] at hc
    obtain ⟨_, _, hc⟩ := obind_some.1 hc
    obtain ⟨_, _, hc⟩ := obind_some.1 hc
    obtain ⟨_, _, hc⟩ := obind_some.1 hc
    obtain ⟨_, _, hc⟩ := obind_some.1 hc
    cases hc
  case mapUpdate t m k v =>
    obtain ⟨_, _, hc⟩ := obind_some.1 (ofO_ne hc (by simp))
    obtain ⟨d, _, hc⟩ := obind_some.1 hc
    cases d <;> simp only [reduceCtorEq] at hc
    obtain ⟨_, _, hc⟩ := obind_some.1 hc
    cases hc
  case insert t m k v =>
    obtain ⟨_, _, hc⟩ := obind_some.1 (ofO_ne hc (by simp))
    obtain ⟨d, _, hc⟩ := obind_some.1 hc
    cases d <;> simp only [reduceCtorEq] at hc
    obtain ⟨_, _, hc⟩ := obind_some.1 hc
    cases hc
  case range t x =>
    obtain ⟨_, _, hc⟩ := obind_some.1 (ofO_ne hc (by simp))
    obtain ⟨d, _, hc⟩ := obind_some.1 hc
    cases d <;> simp only [reduceCtorEq] at hc <;> cases hc
  case next x isS =>
    obtain ⟨_, _, hc⟩ := obind_some.1 (ofO_ne hc (by simp))
    cases isS <;> cases hc
  case entry x =>
    obtain ⟨_, _, hc⟩ := obind_some.1 (ofO_ne hc (by simp))
    cases hc
  case build t parts => exact build_sound hT hc ho hr
  case buildSlice t n parts => exact buildSlice_sound hT hc ho hr
  case load t a =>
    obtain ⟨f, hf, hc⟩ := obind_some.1 (ofO_ne hc (by simp))
    obtain ⟨_, _, hc⟩ := obind_some.1 hc
    obtain ⟨_, _, hc⟩ := obind_some.1 hc
    cases hc
  case store t a v =>
    obtain ⟨f, hf, hc⟩ := obind_some.1 (ofO_ne hc (by simp))
    obtain ⟨_, _, hc⟩ := obind_some.1 hc
    cases hc
  case nilCheck x =>
    obtain ⟨f, hf, hc⟩ := obind_some.1 (ofO_ne hc (by simp))
    cases hc
    have h1 := one_rel ho hf
    have hr' : nilCheckG [f F] = some r := hr
    generalize f F = v at h1 hr'
    generalize hq : ρ x = x' at h1
    cases h1 <;> first | (cases hr'; done) | skip
    · rename_i b o l hb
      cases hr'
      exact nilCheck_ptr hq (.ptr hb)
    · rename_i b l hb
      cases hr'
      exact nilCheck_map hq (.map hb)
    · rename_i fi xs ys xs' ys' ha hb
      cases hr'
      exact nilCheck_func hq (.func _ ha hb)
  case binOp op t x y yt =>
    obtain ⟨fs, hf, hc⟩ := obind_some.1 (ofO_ne hc (by simp))
    cases hc' : binC T op t fs <;> rw [hc'] at hc <;> simp only [Option.some.injEq, reduceCtorEq, Cop.pu.injEq] at hc
    obtain ⟨rfl, rfl⟩ := hc
    exact pu_bin hT hf hc' ho hr
  case unOp op t x =>
    obtain ⟨f, hf, hc⟩ := obind_some.1 (ofO_ne hc (by simp))
    have h1 := one_rel ho hf
    cases op <;> simp only [reduceCtorEq] at hc
    · cases hc
      have hr' : (match [f F] with | [.int k n] => ipu k (wrapK k (Int.sub (.ofNat 0) n)) | _ => none) = some r := hr
      generalize f F = v at h1 hr'
      generalize hq : ρ x = x' at h1
      cases h1 <;> first | (cases hr'; done) | skip
      cases hr'
      exact neg_sound hq
    · cases hc
      have hr' : (match [f F] with | [.bool b] => bpu (!b) | _ => none) = some r := hr
      generalize f F = v at h1 hr'
      generalize hq : ρ x = x' at h1
      cases h1 <;> first | (cases hr'; done) | skip
      cases hr'
      exact not_sound hq
  case convert s d x =>
    obtain ⟨f, hf, hc⟩ := obind_some.1 (ofO_ne hc (by simp))
    cases hc' : convC T s d [f] <;> rw [hc'] at hc <;> simp only [Option.some.injEq, reduceCtorEq, Cop.pu.injEq] at hc
    obtain ⟨rfl, rfl⟩ := hc
    exact pu_conv hT hf hc' ho hr
  case makeFunc fn first captured =>
    cases fn <;> simp only [reduceCtorEq] at hc
    obtain ⟨fs, hf, hc⟩ := obind_some.1 (ofO_ne hc (by simp))
    cases hc
    obtain ⟨q, hq, hr⟩ := obind_some.1 hr
    cases hr
    obtain ⟨a, ha, hq⟩ := obind_some.1 hq
    cases hq
    have ho' : OpRel φ F ρ (lapp first.toList captured.toList) := by
      rw [lapp_eq]
      intro y hy
      exact ho y (by simpa using hy)
    have hv := opds_some hf ho'
    rw [lapp_eq, List.map_append] at hv
    rw [llen_eq] at ha
    rw [ltake?_eq] at ha
    split at ha
    · cases ha
      have hl : first.toList.length = (first.toList.map ρ).length := by simp
      refine makeFunc_sound ?_ ?_
      · have := hv.take first.toList.length
        rw [hl, List.take_left] at this
        rw [← hl] at this
        exact this
      · have := hv.drop first.toList.length
        rw [hl, List.drop_left] at this
        rw [← hl] at this
        rw [llen_eq, ldrop_eq]
        exact this
    · cases ha
  case makeSlice t l c =>
    obtain ⟨fs, hf, hc⟩ := obind_some.1 (ofO_ne hc (by simp))
    obtain ⟨d, hd, hc⟩ := obind_some.1 hc
    cases d <;> simp only [reduceCtorEq] at hc
    obtain ⟨i, hi, hc⟩ := obind_some.1 hc
    obtain ⟨zs, hz, hc⟩ := obind_some.1 hc
    obtain ⟨hs, hc⟩ := oif_some.1 hc
    cases hc
    rw [beq_eq, llen_eq] at hs
    obtain ⟨a, b, hv, h1, h2⟩ := two_rel ho hf
    rw [hv] at hr
    exact makeSlice_sound hT hd hi hz hs h1 h2 hr
  case slice t x lo hi mx =>
    obtain ⟨fs, hf, hc⟩ := obind_some.1 (ofO_ne hc (by simp))
    obtain ⟨d, hd, hc⟩ := obind_some.1 hc
    have ho' : OpRel φ F ρ (x :: (lo.toList ++ hi.toList ++ mx.toList)) := by
      intro y hy
      refine ho y ?_
      cases lo <;> cases hi <;> cases mx <;> simpa using hy
    cases d <;> simp only [reduceCtorEq] at hc
    case string =>
      cases hc
      obtain ⟨a, l, h, m, ha, hl, hh, hm, _, hr⟩ := slice_ops hf ho' hr
      cases a <;> first | (cases hr; done) | skip
      exact sliceStrOp (n := 1) (hT.und hd) ha hl hh hm ⟨_, rfl⟩ hr
    case slice e =>
      obtain ⟨s, hs, hc⟩ := obind_some.1 hc
      cases hc
      obtain ⟨a, l, h, m, ha, hl, hh, hm, hmh, hr⟩ := slice_ops hf ho' hr
      have hns : ∀ s, a ≠ .str s := by intro s he; subst he; cases hr
      have hr' : sliceG s a l h m = some r := by
        cases a <;> first | exact absurd rfl (hns _) | exact hr
      exact sliceOp hT hd hs ha hl hh hm hmh hns hr'
    case array n e =>
      obtain ⟨s, hs, hc⟩ := obind_some.1 hc
      cases hc
      obtain ⟨a, l, h, m, ha, hl, hh, hm, hmh, hr⟩ := slice_ops hf ho' hr
      exact sliceArrOp hT hd hs ha hl hh hm hmh hr
  case fieldAddr s x f =>
    obtain ⟨p, hf, hc⟩ := obind_some.1 (ofO_ne hc (by simp))
    obtain ⟨d, hd, hc⟩ := obind_some.1 hc
    cases d <;> simp only [reduceCtorEq] at hc
    obtain ⟨fd, hfd, hc⟩ := obind_some.1 hc
    obtain ⟨n, hn, hc⟩ := obind_some.1 hc
    obtain ⟨hz, hc⟩ := oif_some.1 hc
    cases hc
    rw [lget?_eq] at hfd
    exact fieldAddr_sound hT hd hfd hn (by intro h0; subst h0; simp [isz] at hz) (one_rel ho hf) hr
  case field s x f =>
    obtain ⟨p, hf, hc⟩ := obind_some.1 (ofO_ne hc (by simp))
    obtain ⟨d, hd, hc⟩ := obind_some.1 hc
    cases d <;> simp only [reduceCtorEq] at hc
    obtain ⟨fd, hfd, hc⟩ := obind_some.1 hc
    obtain ⟨n, hn, hc⟩ := obind_some.1 hc
    obtain ⟨g, hg, hc⟩ := obind_some.1 hc
    cases hc
    rw [lget?_eq] at hfd
    exact field_sound hT hd hfd hn hg (one_rel ho hf) hr
  case indexAddr t x i =>
    obtain ⟨fs, hf, hc⟩ := obind_some.1 (ofO_ne hc (by simp))
    obtain ⟨d, hd, hc⟩ := obind_some.1 hc
    obtain ⟨a, b, hv, h1, h2⟩ := two_rel ho hf
    cases d <;> simp only [reduceCtorEq] at hc
    case slice e =>
      obtain ⟨s, hs, hc⟩ := obind_some.1 hc
      cases hc
      rw [hv] at hr
      exact indexAddr_slice hT hd hs h1 h2 hr
    case array n e =>
      obtain ⟨s, hs, hc⟩ := obind_some.1 hc
      cases hc
      rw [hv] at hr
      exact indexAddr_array hT hd hs h1 h2 hr
  case index t x i =>
    obtain ⟨fs, hf, hc⟩ := obind_some.1 (ofO_ne hc (by simp))
    obtain ⟨d, hd, hc⟩ := obind_some.1 hc
    obtain ⟨a, b, hv, h1, h2⟩ := two_rel ho hf
    cases d <;> simp only [reduceCtorEq] at hc
    case string =>
      cases hc
      rw [hv] at hr
      exact indexStr_sound (hT.und hd) h1 h2 hr
    case array n e =>
      obtain ⟨s, hs, hc⟩ := obind_some.1 hc
      obtain ⟨g, hg, hc⟩ := obind_some.1 hc
      cases hc
      rw [hv] at hr
      exact indexArr_sound hT hd hs hg h1 h2 hr
  case extract x i =>
    obtain ⟨f, hf, hc⟩ := obind_some.1 (ofO_ne hc (by simp))
    cases hc
    have h1 := one_rel ho hf
    have hr' : extractG i [f F] = some r := hr
    generalize f F = v at h1 hr'
    cases v <;> first | (cases hr'; done) | skip
    obtain ⟨u, hu, hr'⟩ := obind_some.1 (show obind (lget? _ i) (fun v => some (NR.val v)) = some r from hr')
    cases hr'
    rw [lget?_eq] at hu
    exact extract_sound h1 hu
  case call c =>
    obtain ⟨callee, args, ts⟩ := c
    have hc1 := ofO_ne hc (by simp)
    clear hc
    have hc := hc1
    clear hc1
    have hoa : OpRel φ F ρ args.toList := fun y hy => ho y (by simp [Call.operands]; exact .inr (by simpa using hy))
    cases callee with
    | value x =>
      cases x <;> simp only [] at hc
      case func f =>
        obtain ⟨fn, hfn, hc⟩ := obind_some.1 hc
        obtain ⟨fs, hf, hc⟩ := obind_some.1 hc
        cases hb : fn.body with
        | some c => rw [hb] at hc; cases hc
        | none =>
          rw [hb] at hc
          obtain ⟨hor, hc⟩ := oif_some.1 hc
          obtain ⟨g', hg', hc⟩ := obind_some.1 hc
          cases hc
          exact extern_sound (hρ f) (hN f fn hfn) hb (by simpa using hor) hg' (opds_some hf hoa) hr
      all_goals
        obtain ⟨fs, hf, hc⟩ := obind_some.1 hc
        cases hc
    | invoke x m => cases hc
    | builtin b =>
      obtain ⟨fs, hf, hc⟩ := obind_some.1 hc
      cases hc' : builtinC T b ts.toList fs <;> rw [hc'] at hc <;> simp only [Option.some.injEq, reduceCtorEq, Cop.pu.injEq] at hc
      obtain ⟨rfl, rfl⟩ := hc
      exact pu_builtin hT hf hc' hoa hr
end
end Go.Ev
