/- The abstract evaluator of the model: texts At Au Av Aw. -/
import Derived.Test.YtofkmenlcnjolaaGreatDoorE8
/- The abstract evaluator, part At: all outcomes, whatever order a range over a map takes. -/
namespace Go.Ev
abbrev CA := Tgt → List V → Heap → Option (List (V × Heap))
abbrev Outs := List (X × Fr × Heap)
/-- base, temporaries, in a round or not -/
abbrev RA := Nat → Nat → Bool → Code → Fr → Heap → Option Outs
noncomputable def bindL {α β : Type} (rs : List α) (f : α → Option (List β)) : Option (List β) :=
  List.rec (motive := fun _ => Option (List β)) (some []) (fun a _ ih => obind (f a) fun x => obind ih fun y => some (lapp x y)) rs
theorem bindL_ok {α β : Type} {f : α → Option (List β)} : ∀ {rs : List α} {out : List β}, bindL rs f = some out → ∀ a ∈ rs, ∃ x, f a = some x ∧ ∀ b ∈ x, b ∈ out := by
  intro rs
  induction rs with
  | nil => intro out _ a ha; cases ha
  | cons r rs ih =>
    intro out h a ha
    obtain ⟨x, h1, h⟩ := obind_some.1 (show obind (f r) (fun x => obind (bindL rs f) fun y => some (lapp x y)) = some out from h)
    obtain ⟨y, h2, h⟩ := obind_some.1 h
    cases h
    rw [lapp_eq]
    cases ha with
    | head => exact ⟨x, h1, fun b hb => List.mem_append_left _ hb⟩
    | tail _ ha =>
      obtain ⟨z, h3, h4⟩ := ih h2 a ha
      exact ⟨z, h3, fun b hb => List.mem_append_right _ (h4 b hb)⟩
/-- the entries of a map that may come next -/
noncomputable def chs {β : Type} (p : Nat → Bool) (f : Nat → V → V → β) (es : List (V × V)) : Nat → List β :=
  List.rec (motive := fun _ => Nat → List β) (fun _ => []) (fun e _ ih i => Bool.casesOn (motive := fun _ => List β) (p i) (ih (Nat.succ i)) (f i e.1 e.2 :: ih (Nat.succ i))) es
theorem chs_ok {β : Type} {p : Nat → Bool} {f : Nat → V → V → β} : ∀ {es : List (V × V)} {j i : Nat} {k x : V}, es[i]? = some (k, x) → p (j + i) = true → f (j + i) k x ∈ chs p f es j := by
  intro es
  induction es with
  | nil => intro j i k x h; simp at h
  | cons e es ih =>
    intro j i k x h hp
    show _ ∈ Bool.casesOn (motive := fun _ => List β) (p j) (chs p f es (j + 1)) (f j e.1 e.2 :: chs p f es (j + 1))
    cases i with
    | zero =>
      simp at h
      subst h
      rw [Nat.add_zero] at hp ⊢
      rw [hp]
      exact List.mem_cons_self
    | succ i =>
      have h2 := ih (j := j + 1) (by simpa using h) (by rw [Nat.add_assoc, Nat.add_comm 1 i]; exact hp)
      rw [Nat.add_assoc, Nat.add_comm 1 i] at h2
      cases p j with
      | false => exact h2
      | true => exact List.mem_cons_of_mem _ h2
noncomputable def nextA (v : V) (H : Heap) : Option (List (V × Heap)) := match v with
  | .ptr b o => oif (Nat.beq o 0) (match H.get b with
    | .oth (.iter m since left _ _) => (match H.get m with
      | .oth (.map es) => some (lapp (chs (fun i => or (lany (Nat.beq i) left) (Nat.ble since i)) (fun i k x => (V.tup [.bool true, k, x], H.set b (.oth (.iter m since (without i left) (some i) (llen es))))) es 0)
          (Bool.casesOn (motive := fun _ => List (V × Heap)) (lall (fun i => Nat.ble (llen es) i) left) [] [(V.tup [.bool false], H)]))
      | _ => Option.none)
    | _ => Option.none)
  | _ => Option.none
theorem lany_of {α : Type} {f : α → Bool} : ∀ {l : List α} {a : α}, a ∈ l → f a = true → lany f l = true := by
  intro l
  induction l with
  | nil => intro a h; cases h
  | cons b l ih =>
    intro a h hf
    show or (f b) (lany f l) = true
    rw [Bool.or_eq_true]
    cases h with
    | head => exact .inl hf
    | tail _ h => exact .inr (ih h hf)
theorem nextA_ok {v : V} {H : Heap} {rs : List (V × Heap)} (h : nextA v H = some rs) {Q : V → Heap → Prop} (hq : ∀ r ∈ rs, Q r.1 r.2) : NextTo v H Q := by
  cases v <;> first | (cases h; done) | skip
  rename_i b o
  obtain ⟨ho, h2⟩ := oif_some.1 (show oif (Nat.beq o 0) (match H.get b with
    | .oth (.iter m since left _ _) => (match H.get m with
      | .oth (.map es) => some (lapp (chs (fun i => or (lany (Nat.beq i) left) (Nat.ble since i)) (fun i k x => (V.tup [.bool true, k, x], H.set b (.oth (.iter m since (without i left) (some i) (llen es))))) es 0)
          (Bool.casesOn (motive := fun _ => List (V × Heap)) (lall (fun i => Nat.ble (llen es) i) left) [] [(V.tup [.bool false], H)]))
      | _ => Option.none)
    | _ => Option.none) = some rs from h)
  have ho' := (beq_eq _ _).1 ho
  clear h
  have h := h2
  clear h2
  subst ho'
  cases e1 : H.get b <;> rw [e1] at h <;> first | (cases h; done) | skip
  rename_i o1
  cases o1 <;> first | (cases h; done) | skip
  rename_i m since left cur last
  simp only [] at h
  cases e2 : H.get m <;> rw [e2] at h <;> first | (cases h; done) | skip
  rename_i o2
  cases o2 <;> first | (cases h; done) | skip
  rename_i es
  simp only [Option.some.injEq] at h
  subst h
  refine ⟨b, m, since, left, cur, last, es, rfl, e1, e2, ?_, ?_⟩
  · intro i k x hi hc
    have := chs_ok (p := fun i => or (lany (Nat.beq i) left) (Nat.ble since i)) (f := fun i k x => (V.tup [.bool true, k, x], H.set b (.oth (.iter m since (without i left) (some i) (llen es))))) (j := 0) hi (by
      rw [Nat.zero_add]
      show or _ _ = true
      rw [Bool.or_eq_true, ble_le]
      rcases hc with hc | hc
      · exact .inl (lany_of hc (Nat.beq_refl i))
      · exact .inr hc)
    rw [Nat.zero_add] at this
    have h2 := hq _ (by rw [lapp_eq]; exact List.mem_append_left _ this)
    rw [llen_eq] at h2
    exact h2
  · intro hd
    have : lall (fun i => Nat.ble (llen es) i) left = true := lall_iff.2 fun i hi => by rw [ble_le, llen_eq]; exact hd i hi
    exact hq (V.tup [.bool false], H) (by rw [lapp_eq, this]; exact List.mem_append_right _ List.mem_cons_self)

noncomputable def execA (cf : CA) (s : Step) (F : Fr) (H : Heap) : Option (List (Fr × Heap)) :=
  Option.casesOn (motive := fun _ => Option (List (Fr × Heap))) (s.want F) Option.none fun wb => Bool.casesOn (motive := fun _ => Option (List (Fr × Heap))) wb (some [(put F s.dst V.undef, H)])
    (match s.cop with
     | .call xs g => obind (g (vals xs F)) fun c => obind (cf c.1 c.2 H) fun rs => some (lmap (fun r => (put F s.dst r.1, r.2)) rs)
     | .nxt x => obind (nextA (x F) H) fun rs => some (lmap (fun r => (put F s.dst r.1, r.2)) rs)
     | _ => obind (exec noO s F H) fun r => some [r])
noncomputable def runsA (cf : CA) (l : List Ins) : Fr → Heap → Option (List (Fr × Heap)) :=
  List.rec (motive := fun _ => Fr → Heap → Option (List (Fr × Heap))) (fun F H => some [(F, H)])
    (fun i _ ih F H => Ins.casesOn (motive := fun _ => Option (List (Fr × Heap))) i (fun s => obind (execA cf s F H) fun rs => bindL rs fun r => ih r.1 r.2) (fun s => oif (again s F H) (ih F H))) l
section
variable {P : Program} {G : Nat}
def CAOk (P : Program) (G : Nat) (cf : CA) : Prop := ∀ {t args H outs}, cf t args H = some outs → CallTo P G t args H fun v1 H1 => (v1, H1) ∈ outs
def RAOk (P : Program) (G : Nat) (ra : RA) : Prop := ∀ {B n : Nat} {rd : Bool} {c : Code} {F : Fr} {H : Heap} {outs : Outs}, codeOk G n c = true → ra B n rd c F H = some outs →
  WS P G B n rd c F H fun x1 F1 H1 => (x1, F1, H1) ∈ outs
theorem execA_ok {cf : CA} (hcf : CAOk P G cf) {s : Step} {F : Fr} {H : Heap} {rs : List (Fr × Heap)} (h : execA cf s F H = some rs) {K : Fr → Heap → Prop} (hk : ∀ r ∈ rs, K r.1 r.2) : StepTo P G s F H K := by
  cases hw : s.want F with
  | none => unfold execA at h; rw [hw] at h; cases h
  | some b =>
    cases b with
    | false =>
      unfold execA at h
      rw [hw] at h
      cases h
      exact .inl ⟨hw, hk _ List.mem_cons_self⟩
    | true =>
      refine .inr ⟨hw, ?_⟩
      unfold execA at h
      rw [hw] at h
      cases hc : s.cop with
      | call xs g =>
        have h' : obind (g (vals xs F)) (fun c => obind (cf c.1 c.2 H) fun rs => some (lmap (fun r => (put F s.dst r.1, r.2)) rs)) = some rs := by simpa [hc] using h
        obtain ⟨⟨t, args⟩, h1, h2⟩ := obind_some.1 h'
        obtain ⟨qs, h3, h4⟩ := obind_some.1 h2
        cases h4
        refine ⟨t, args, h1, (hcf h3).mono fun v1 H1 hm => hk (put F s.dst v1, H1) ?_⟩
        rw [lmap_eq]
        exact List.mem_map.2 ⟨(v1, H1), hm, rfl⟩
      | nxt x =>
        have h' : obind (nextA (x F) H) (fun rs => some (lmap (fun r => (put F s.dst r.1, r.2)) rs)) = some rs := by simpa [hc] using h
        obtain ⟨qs, h3, h4⟩ := obind_some.1 h'
        cases h4
        refine nextA_ok h3 fun r hm => hk (put F s.dst r.1, r.2) ?_
        rw [lmap_eq]
        exact List.mem_map.2 ⟨r, hm, rfl⟩
      | bad =>
        obtain ⟨r, h1, h2⟩ := obind_some.1 (show obind (exec noO s F H) (fun r => some [r]) = some rs by simpa [hc] using h)
        cases h2
        exact ⟨r.1, r.2, h1, hk _ List.mem_cons_self⟩
      | pu xs g =>
        obtain ⟨r, h1, h2⟩ := obind_some.1 (show obind (exec noO s F H) (fun r => some [r]) = some rs by simpa [hc] using h)
        cases h2
        exact ⟨r.1, r.2, h1, hk _ List.mem_cons_self⟩
      | rd xs g =>
        obtain ⟨r, h1, h2⟩ := obind_some.1 (show obind (exec noO s F H) (fun r => some [r]) = some rs by simpa [hc] using h)
        cases h2
        exact ⟨r.1, r.2, h1, hk _ List.mem_cons_self⟩
      | eff xs g =>
        obtain ⟨r, h1, h2⟩ := obind_some.1 (show obind (exec noO s F H) (fun r => some [r]) = some rs by simpa [hc] using h)
        cases h2
        exact ⟨r.1, r.2, h1, hk _ List.mem_cons_self⟩
theorem runsA_ok {cf : CA} (hcf : CAOk P G cf) : ∀ {l : List Ins} {F : Fr} {H : Heap} {rs : List (Fr × Heap)} {Q : Fr → Heap → Prop}, runsA cf l F H = some rs → (∀ r ∈ rs, Q r.1 r.2) → RunsTo P G l F H Q := by
  intro l
  induction l with
  | nil => intro F H rs Q h hq; cases h; exact hq _ List.mem_cons_self
  | cons i l ih =>
    intro F H rs Q h hq
    cases i with
    | ex s =>
      obtain ⟨qs, h1, h2⟩ := obind_some.1 (show obind (execA cf s F H) (fun rs => bindL rs fun r => runsA cf l r.1 r.2) = some rs from h)
      refine execA_ok hcf h1 fun r hr => ?_
      obtain ⟨x, h3, h4⟩ := bindL_ok h2 r hr
      exact ih h3 fun q hq' => hq q (h4 q hq')
    | re s =>
      obtain ⟨h1, h2⟩ := oif_some.1 (show oif (again s F H) (runsA cf l F H) = some rs from h)
      exact ⟨h1, ih h2 hq⟩
end

/- code -/
noncomputable def thenA (r : Option Outs) (k : Fr → Heap → Option Outs) : Option Outs :=
  obind r fun rs => bindL rs fun o => X.casesOn (motive := fun _ => Option Outs) o.1 (k o.2.1 o.2.2) (fun id => some [(.exit id, o.2.1, o.2.2)]) (some [(.ret, o.2.1, o.2.2)])
noncomputable def blkX (id : Nat) (x : X) : X := X.casesOn (motive := fun _ => X) x .norm (fun i => Bool.casesOn (motive := fun _ => X) (Nat.beq i id) (.exit i) .norm) .ret
noncomputable def condA (run : Code → Fr → Heap → Option Outs) (c : Operand) (a b : Code) (F : Fr) (H : Heap) : Option Outs :=
  obind (opd c) fun x => (match x F with
    | .bool t => Bool.casesOn (motive := fun _ => Option Outs) t (run b F H) (run a F H)
    | _ => Option.none)
/-- the states at the head of a loop after one more round -/
noncomputable def nextS (B n : Nat) (lv : List Nat) (rs : Outs) : Option (List Can) :=
  List.rec (motive := fun _ => Option (List Can)) (some []) (fun r _ ih => X.casesOn (motive := fun _ => Option (List Can)) r.1 (obind (canon B n lv r.2.1 r.2.2) fun c => obind ih fun S => some (joinC c S)) (fun _ => ih) ih) rs
/-- rounds of a loop from a set of states -/
noncomputable def frA (B n : Nat) (lv : List Nat) (body : Fr → Heap → Option Outs) (k : Nat) : List Can → Option Outs :=
  Nat.rec (motive := fun _ => List Can → Option Outs) (fun _ => Option.none) (fun _ ih S => List.casesOn (motive := fun _ => Option Outs) S (some []) (fun _ _ =>
    obind (bindL S fun c => body (frame0 c.vs 0 .nil) (mkH c.l)) fun rs => obind (nextS B n lv rs) fun S' => obind (ih S') fun out => some (lapp (lfilter (fun r => !(isN r.1)) rs) out))) k
noncomputable def bodyId (c : Code) : Nat := Code.rec (motive := fun _ => Nat) 0 (fun id _ _ => id) (fun _ _ a _ => a) (fun _ _ _ _ _ => 0) (fun id _ _ => id) (fun _ _ => 0) (fun _ _ _ _ _ _ => 0) (fun _ => 0) (fun _ a => a) (fun _ => 0) (fun _ => 0) 0 (fun _ => 0) c
/-- the slots that are kept at the head of a loop: temporaries of the function, first block or region of the body -/
abbrev Hint := Nat → Nat → Option (List Nat)
/-- what is kept of a function's result -/
abbrev Weak := FuncId → Option (V → V)
noncomputable def callFA (G : Nat) (N : Fns) (T : Ty) (W : Weak) (run : RA) (f : FuncId) (args : List V) (H : Heap) : Option (List (V × Heap)) :=
  obind (N.get Option.none f) fun fn => obind fn.body fun c => oif (and (fnOk G fn c) (Nat.ble (llen args) fn.ntmps)) <|
    obind (run H.next fn.ntmps false c (frame0 args 0 .nil) H) fun rs =>
      obind (bindL rs fun o => (match o.1 with
        | .exit _ => Option.none
        | _ => obind (resL T o.2.1 o.2.2 fn.results.toList) fun l => some [(resM l, o.2.2)])) fun vs =>
        Option.casesOn (motive := fun _ => Option (List (V × Heap))) (W f) (some vs) fun w =>
          obind (List.rec (motive := fun _ => Option (List Can)) (some []) (fun r _ ih => obind (canonV H.next [r.1] [w r.1] r.2) fun c => obind ih fun S => some (joinC c S)) vs) fun S =>
            some (lmap (fun c => (lget .any c.vs 0, mkH c.l)) S)
noncomputable def callWA (G : Nat) (N : Fns) (T : Ty) (O : CA) (W : Weak) (run : RA) : CA := fun t args H =>
  Option.casesOn (motive := fun _ => Option (List (V × Heap))) (O t args H)
    (Tgt.casesOn (motive := fun _ => Option (List (V × Heap))) t (fun f => callFA G N T W run f args H) (fun _ => Option.none)) some
noncomputable def runA (G : Nat) (N : Fns) (T : Ty) (O : CA) (W : Weak) (hint : Hint) (fuel : Nat) : RA :=
  Nat.rec (motive := fun _ => RA) (fun _ _ _ _ _ _ => Option.none) (fun _ ih B n rd c F H =>
    Code.casesOn (motive := fun _ => Option Outs) c (some [(.norm, F, H)])
      (fun _ ops draw => obind (plan N T ops.toList draw) fun l => obind (runsA (callWA G N T O W ih) l F H) fun rs => some (lmap (fun r => (X.norm, r.1, r.2)) rs))
      (fun a b => thenA (ih B n rd a F H) (ih B n rd b))
      (fun x a b => condA (ih B n rd) x a b F H)
      (fun id b => obind (ih B n rd b F H) fun rs => some (lmap (fun r => (blkX id r.1, r.2.1, r.2.2)) rs))
      (fun b => Option.casesOn (motive := fun _ => Option Outs) (hint n (bodyId b)) (thenA (ih B n rd b F H) (ih B n rd (.loop b)))
        (fun lv => obind (canon B n lv F H) fun c => frA B n lv (ih B n rd b) 100 [c]))
      (fun _ _ _ _ => Option.none)
      (fun id => some [(.exit id, F, H)])
      (fun c => Bool.casesOn (motive := fun _ => Option Outs) rd (ih B n false c F H) Option.none)
      (fun _ => some [(.norm, F, H)])
      (fun _ => Option.none)
      (some [(.ret, F, H)])
      (fun _ => Option.none)) fuel
noncomputable def callA (G : Nat) (N : Fns) (T : Ty) (O : CA) (W : Weak) (hint : Hint) (fuel : Nat) : CA := callWA G N T O W (runA G N T O W hint fuel)
end Go.Ev
/- The abstract evaluator, part Au: all outcomes are these. -/
namespace Go.Ev
section
variable {P : Program} {N : Fns} {T : Ty} {G : Nat} {O : CA} {W : Weak} {hint : Hint}
theorem thenA_ok {r : Option Outs} {k : Fr → Heap → Option Outs} {outs : Outs} (h : thenA r k = some outs) : ∃ rs, r = some rs ∧ ∀ x F H, (x, F, H) ∈ rs → (x = .norm ∧ ∃ o, k F H = some o ∧ ∀ b ∈ o, b ∈ outs) ∨ (x ≠ .norm ∧ (x, F, H) ∈ outs) := by
  obtain ⟨rs, h1, h2⟩ := obind_some.1 h
  refine ⟨rs, h1, fun x F H hm => ?_⟩
  obtain ⟨o, h3, h4⟩ := bindL_ok h2 _ hm
  cases x with
  | norm => exact .inl ⟨rfl, o, h3, h4⟩
  | exit id => cases h3; exact .inr ⟨by simp, h4 _ List.mem_cons_self⟩
  | ret => cases h3; exact .inr ⟨by simp, h4 _ List.mem_cons_self⟩
theorem nextS_ok {B n : Nat} {lv : List Nat} : ∀ {rs : Outs} {S : List Can}, nextS B n lv rs = some S → ∀ F H, (X.norm, F, H) ∈ rs → ∃ c ∈ S, Seen B (slots n F) H c := by
  intro rs
  induction rs with
  | nil => intro S _ F H hm; cases hm
  | cons r rs ih =>
    intro S h F H hm
    obtain ⟨x, F1, H1⟩ := r
    cases x with
    | norm =>
      obtain ⟨c, h1, h2⟩ := obind_some.1 (show obind (canon B n lv F1 H1) (fun c => obind (nextS B n lv rs) fun S => some (joinC c S)) = some S from h)
      obtain ⟨S1, h3, h4⟩ := obind_some.1 h2
      cases h4
      cases hm with
      | head => exact ⟨c, joinC_self _ _, canonV_ok h1⟩
      | tail _ hm =>
        obtain ⟨d, h5, h6⟩ := ih h3 F H hm
        exact ⟨d, joinC_sub _ _ _ h5, h6⟩
    | exit id =>
      cases hm with
      | tail _ hm => exact ih (show nextS B n lv rs = some S from h) F H hm
    | ret =>
      cases hm with
      | tail _ hm => exact ih (show nextS B n lv rs = some S from h) F H hm
theorem isN_norm {x : X} (h : x ≠ .norm) : (!(isN x)) = true := by
  cases x <;> first | rfl | exact absurd rfl h
theorem frA_ok {B n : Nat} {rd : Bool} {lv : List Nat} {c : Code} {body : Fr → Heap → Option Outs} (hb : ∀ {F H o}, body F H = some o → WS P G B n rd c F H fun x1 F1 H1 => (x1, F1, H1) ∈ o) {k : Nat} {S : List Can} {outs : Outs} (h : frA B n lv body k S = some outs)
    {F : Fr} {H : Heap} {a : Can} (ha : a ∈ S) (hs : Seen B (slots n F) H a) : WS P G B n rd (.loop c) F H fun x1 F1 H1 => (x1, F1, H1) ∈ outs := by
  refine WS_loop (fun k F H => ∃ S o, frA B n lv body k S = some o ∧ (∀ b ∈ o, b ∈ outs) ∧ ∃ a ∈ S, Seen B (slots n F) H a) ?_ (k := k) ⟨S, outs, h, fun _ h => h, a, ha, hs⟩
  rintro k F1 H1 ⟨S1, o, h1, h2, a1, ha1, hs1⟩
  cases k with
  | zero => cases h1
  | succ k =>
    cases S1 with
    | nil => cases ha1
    | cons q S1 =>
      obtain ⟨rs, h3, h4⟩ := obind_some.1 (show obind (bindL (q :: S1) fun c => body (frame0 c.vs 0 .nil) (mkH c.l)) (fun rs => obind (nextS B n lv rs) fun S' => obind (frA B n lv body k S') fun out => some (lapp (lfilter (fun r => !(isN r.1)) rs) out)) = some o from h1)
      obtain ⟨S2, h5, h6⟩ := obind_some.1 h4
      obtain ⟨o2, h7, h8⟩ := obind_some.1 h6
      cases h8
      obtain ⟨x, h9, h10⟩ := bindL_ok h3 a1 ha1
      refine seen_WS hs1 ((hb h9).mono fun x1 F2 H2 hm => ?_)
      have hm2 := h10 _ hm
      have hout : x1 ≠ .norm → (x1, F2, H2) ∈ outs := fun hx => h2 _ (by
        rw [lapp_eq, lfilter_eq]
        exact List.mem_append_left _ (List.mem_filter.2 ⟨hm2, isN_norm hx⟩))
      cases x1 with
      | norm =>
        obtain ⟨d, hd, hsd⟩ := nextS_ok h5 F2 H2 hm2
        exact ⟨k, by omega, S2, o2, h7, fun b hb => h2 _ (by rw [lapp_eq]; exact List.mem_append_right _ hb), d, hd, hsd⟩
      | exit id => exact hout (by simp)
      | ret => exact hout (by simp)
theorem callFA_ok (hT : TOk P T) (hN : NOk P N) {run : RA} (hrun : RAOk P G run) {f : FuncId} {args : List V} {H : Heap} {outs : List (V × Heap)} (h : callFA G N T W run f args H = some outs) : CallTo P G (.fn f) args H fun v1 H1 => (v1, H1) ∈ outs := by
  obtain ⟨fn, hfn, h⟩ := obind_some.1 (show obind (N.get Option.none f) _ = some outs from h)
  obtain ⟨c, hb, h⟩ := obind_some.1 h
  obtain ⟨hok, h⟩ := oif_some.1 h
  obtain ⟨rs, hrc, h⟩ := obind_some.1 h
  obtain ⟨vs, hvs, h⟩ := obind_some.1 h
  have hok' := hok
  rw [Bool.and_eq_true] at hok'
  have hcode : codeOk G fn.ntmps c = true := by
    have := hok'.1
    unfold fnOk at this
    rw [Bool.and_eq_true, Bool.and_eq_true] at this
    exact this.2.1
  have base : CallTo P G (.fn f) args H fun v1 H1 => (v1, H1) ∈ vs := by
    refine call_fn hT hN hfn hb hok ((hrun hcode hrc).mono ?_)
    intro x1 F1 H1 hm
    obtain ⟨o, h3, h4⟩ := bindL_ok hvs _ hm
    cases x1 with
    | exit id => cases h3
    | norm =>
      obtain ⟨l, hl, h5⟩ := obind_some.1 (show obind (resL T F1 H1 fn.results.toList) (fun l => some [(resM l, H1)]) = some o from h3)
      cases h5
      exact ⟨by simp, l, hl, h4 _ List.mem_cons_self⟩
    | ret =>
      obtain ⟨l, hl, h5⟩ := obind_some.1 (show obind (resL T F1 H1 fn.results.toList) (fun l => some [(resM l, H1)]) = some o from h3)
      cases h5
      exact ⟨by simp, l, hl, h4 _ List.mem_cons_self⟩
  cases hW : W f with
  | none => rw [hW] at h; cases h; exact base
  | some w =>
    rw [hW] at h
    obtain ⟨S, hS, h⟩ := obind_some.1 (show obind (List.rec (motive := fun _ => Option (List Can)) (some []) (fun r _ ih => obind (canonV H.next [r.1] [w r.1] r.2) fun c => obind ih fun S => some (joinC c S)) vs) (fun S => some (lmap (fun c => (lget .any c.vs 0, mkH c.l)) S)) = some outs from h)
    cases h
    have key : ∀ (vs : List (V × Heap)) (S : List Can), List.rec (motive := fun _ => Option (List Can)) (some []) (fun r _ ih => obind (canonV H.next [r.1] [w r.1] r.2) fun c => obind ih fun S => some (joinC c S)) vs = some S → ∀ r ∈ vs, ∃ c ∈ S, Seen H.next [r.1] r.2 c := by
      intro vs
      induction vs with
      | nil => intro S _ r hr; cases hr
      | cons q vs ih =>
        intro S h r hr
        obtain ⟨c, h1, h2⟩ := obind_some.1 h
        obtain ⟨S1, h3, h4⟩ := obind_some.1 h2
        cases h4
        cases hr with
        | head => exact ⟨c, joinC_self _ _, canonV_ok h1⟩
        | tail _ hr =>
          obtain ⟨d, h5, h6⟩ := ih S1 h3 r hr
          exact ⟨d, joinC_sub _ _ _ h5, h6⟩
    refine base.view fun v H1 hm => ?_
    obtain ⟨d, hd, σ, h1, h2⟩ := key vs S hS _ hm
    obtain ⟨ws, l⟩ := d
    cases h2 with
    | cons h3 h4 =>
      cases h4
      refine ⟨σ, _, _, h1, h3, ?_⟩
      rw [lmap_eq]
      exact List.mem_map.2 ⟨_, hd, rfl⟩
theorem callWA_ok (hT : TOk P T) (hN : NOk P N) (hO : CAOk P G O) {run : RA} (hrun : RAOk P G run) : CAOk P G (callWA G N T O W run) := by
  intro t args H outs h
  have h' : Option.casesOn (motive := fun _ => Option (List (V × Heap))) (O t args H)
    (Tgt.casesOn (motive := fun _ => Option (List (V × Heap))) t (fun f => callFA G N T W run f args H) (fun _ => Option.none)) some = some outs := h
  cases ho : O t args H with
  | some r =>
    rw [ho] at h'
    cases h'
    exact hO ho
  | none =>
    rw [ho] at h'
    cases t with
    | fn f => exact callFA_ok hT hN hrun h'
    | yld b => cases h'
theorem runA_ok (hT : TOk P T) (hN : NOk P N) (hO : CAOk P G O) (hmix : P.follows .mixedOrders = true) : ∀ fuel, RAOk P G (runA G N T O W hint fuel) := by
  intro fuel
  induction fuel using Nat.strongRecOn with
  | _ fuel ihs =>
   cases fuel with
   | zero => intro B n rd c F H outs _ h; cases h
   | succ fuel =>
    have ih : RAOk P G (runA G N T O W hint fuel) := ihs fuel (by omega)
    intro B n rd c F H outs hco h
    have hcf : CAOk P G (callWA G N T O W (runA G N T O W hint fuel)) := callWA_ok hT hN hO ih
    cases c with
    | skip => cases h; exact WS_skip List.mem_cons_self
    | region id ops draw =>
      obtain ⟨l, hpl, h1⟩ := obind_some.1 (show obind (plan N T ops.toList draw) (fun l => obind (runsA (callWA G N T O W (runA G N T O W hint fuel)) l F H) fun rs => some (lmap (fun r => (X.norm, r.1, r.2)) rs)) = some outs from h)
      obtain ⟨rs, h2, h3⟩ := obind_some.1 h1
      cases h3
      exact WS_region hT hN hmix hco hpl (runsA_ok hcf h2 fun r hr => by rw [lmap_eq]; exact List.mem_map.2 ⟨r, hr, rfl⟩)
    | seq c1 c2 =>
      have hco' : and (codeOk G n c1) (codeOk G n c2) = true := hco
      rw [Bool.and_eq_true] at hco'
      refine WS_seq ?_
      obtain ⟨rs, h1, h2⟩ := thenA_ok (show thenA (runA G N T O W hint fuel B n rd c1 F H) (runA G N T O W hint fuel B n rd c2) = some outs from h)
      refine (ih hco'.1 h1).mono fun x1 F1 H1 hm => ?_
      rcases h2 x1 F1 H1 hm with ⟨rfl, o, h3, h4⟩ | ⟨h3, h4⟩
      · exact (ih hco'.2 h3).mono fun _ _ _ hm => h4 _ hm
      · cases x1 with
        | norm => exact absurd rfl h3
        | exit id => exact h4
        | ret => exact h4
    | cond y c1 c2 =>
      have hco' : and (opdOk G n y) (and (codeOk G n c1) (codeOk G n c2)) = true := hco
      rw [Bool.and_eq_true, Bool.and_eq_true] at hco'
      obtain ⟨f, hy, h2⟩ := obind_some.1 (show obind (opd y) (fun x => (match x F with
        | .bool t => Bool.casesOn (motive := fun _ => Option Outs) t (runA G N T O W hint fuel B n rd c2 F H) (runA G N T O W hint fuel B n rd c1 F H)
        | _ => Option.none)) = some outs from h)
      cases hf : f F <;> rw [hf] at h2 <;> first | (cases h2; done) | skip
      rename_i t
      refine WS_cond hco'.1 hy hf ?_
      cases t with
      | true => exact ih hco'.2.1 h2
      | false => exact ih hco'.2.2 h2
    | block id c =>
      have hcoc : codeOk G n c = true := hco
      obtain ⟨rs, h1, h2⟩ := obind_some.1 (show obind (runA G N T O W hint fuel B n rd c F H) (fun rs => some (lmap (fun r => (blkX id r.1, r.2.1, r.2.2)) rs)) = some outs from h)
      cases h2
      refine WS_block ((ih hcoc h1).mono fun x1 F1 H1 hm => ?_)
      have hm2 : (blkX id x1, F1, H1) ∈ lmap (fun r : X × Fr × Heap => (blkX id r.1, r.2.1, r.2.2)) rs := by
        rw [lmap_eq]
        exact List.mem_map.2 ⟨_, hm, rfl⟩
      cases x1 with
      | norm => exact hm2
      | ret => exact hm2
      | exit i =>
        show if i = id then _ else _
        by_cases hid : i = id
        · rw [if_pos hid]
          have : blkX id (.exit i) = .norm := by show Bool.casesOn (motive := fun _ => X) (Nat.beq i id) (.exit i) .norm = _; rw [(beq_eq i id).2 hid]
          rw [this] at hm2
          exact hm2
        · rw [if_neg hid]
          have : blkX id (.exit i) = .exit i := by show Bool.casesOn (motive := fun _ => X) (Nat.beq i id) (.exit i) .norm = _; rw [Bool.eq_false_iff.2 (fun e => hid ((beq_eq i id).1 e))]
          rw [this] at hm2
          exact hm2
    | loop c =>
      have hcoc : codeOk G n c = true := hco
      cases hh : hint n (bodyId c) with
      | some lv =>
        have h' : Option.casesOn (motive := fun _ => Option Outs) (hint n (bodyId c)) (thenA (runA G N T O W hint fuel B n rd c F H) (runA G N T O W hint fuel B n rd (.loop c)))
          (fun lv => obind (canon B n lv F H) fun k => frA B n lv (runA G N T O W hint fuel B n rd c) 100 [k]) = some outs := h
        rw [hh] at h'
        obtain ⟨k, h1, h2⟩ := obind_some.1 h'
        exact frA_ok (fun h => ih hcoc h) h2 List.mem_cons_self (canonV_ok h1)
      | none =>
        refine WS_loop (fun m F1 H1 => m ≤ fuel + 1 ∧ ∃ o, runA G N T O W hint m B n rd (.loop c) F1 H1 = some o ∧ ∀ b ∈ o, b ∈ outs) ?_ (k := fuel + 1) ⟨Nat.le_refl _, outs, h, fun _ h => h⟩
        rintro m F1 H1 ⟨hm, o, hrun, hsub⟩
        cases m with
        | zero => cases hrun
        | succ m =>
          have ihm : RAOk P G (runA G N T O W hint m) := ihs m (by omega)
          have h' : Option.casesOn (motive := fun _ => Option Outs) (hint n (bodyId c)) (thenA (runA G N T O W hint m B n rd c F1 H1) (runA G N T O W hint m B n rd (.loop c)))
            (fun lv => obind (canon B n lv F1 H1) fun k => frA B n lv (runA G N T O W hint m B n rd c) 100 [k]) = some o := hrun
          rw [hh] at h'
          obtain ⟨rs, h1, h2⟩ := thenA_ok h'
          refine (ihm hcoc h1).mono fun x1 F2 H2 hm1 => ?_
          rcases h2 x1 F2 H2 hm1 with ⟨rfl, o2, h3, h4⟩ | ⟨h3, h4⟩
          · exact ⟨m, by omega, by omega, o2, h3, fun b hb => hsub _ (h4 _ hb)⟩
          · cases x1 with
            | norm => exact absurd rfl h3
            | exit id => exact hsub _ h4
            | ret => exact hsub _ h4
    | rangeFunc g ps assign body => cases h
    | exit id => cases h; exact WS_exit List.mem_cons_self
    | label l => cases h; exact WS_label List.mem_cons_self
    | ret => cases h; exact WS_ret List.mem_cons_self
    | scope c =>
      cases rd with
      | true => cases h
      | false => exact WS_scope (ih (show codeOk G n c = true from hco) (show runA G N T O W hint fuel B n false c F H = some outs from h))
    | goto _ => cases h
    | refuse _ => cases h
theorem callA_ok (hT : TOk P T) (hN : NOk P N) (hO : CAOk P G O) (hmix : P.follows .mixedOrders = true) (fuel : Nat) : CAOk P G (callA G N T O W hint fuel) := callWA_ok hT hN hO (runA_ok hT hN hO hmix fuel)
end
end Go.Ev
/- The abstract evaluator, part Av: calls that are known once and for all, and their use on any heap. -/
namespace Go.Ev
/-- the blocks in an object, groups left out -/
noncomputable def blkF (o : AObj) : List Nat := match o with
  | .cells cs _ => lflat (blkV dpt) cs
  | .oth o => (match o with
    | .map es => lflat (fun e => lapp (blkV dpt e.1) (blkV dpt e.2)) es
    | .iter m _ _ _ _ => [m]
    | _ => [])
  | _ => []
noncomputable def gcF (B : Nat) (H : Heap) (fuel : Nat) : List Nat → List Nat → List Nat :=
  Nat.rec (motive := fun _ => List Nat → List Nat → List Nat) (fun _ s => s) (fun _ ih todo s => List.casesOn (motive := fun _ => List Nat) todo s (fun b r =>
    Bool.casesOn (motive := fun _ => List Nat) (or (lt b B) (lany (Nat.beq b) s)) (ih (lapp (blkF (H.get b)) r) (lapp s [b])) (ih r s))) fuel
/-- function, arguments, memory; the result, the rows made for it -/
structure Ent where
  f : FuncId
  args : List V
  l : List AObj
  v : V
  ds : List (List V)
noncomputable def rows (ds : List (List V)) : List AObj := lmap (fun d => AObj.cells d 0) ds
theorem trL_app : ∀ (a b : List AObj) (k : Nat) (t : Tr AObj), trL (a ++ b) k t = trL b (k + a.length) (trL a k t) := by
  intro a
  induction a with
  | nil => intro b k t; rfl
  | cons x a ih =>
    intro b k t
    show trL (a ++ b) (k + 1) _ = trL b (k + (a.length + 1)) (trL a (k + 1) _)
    rw [ih, Nat.add_assoc, Nat.add_comm 1]
theorem pushAll_rows : ∀ (ds : List (List V)) (t : Tr AObj) (k : Nat), pushAll ds ⟨t, k⟩ = ⟨trL (rows ds) k t, k + ds.length⟩ := by
  intro ds
  induction ds with
  | nil => intro t k; rfl
  | cons d ds ih =>
    intro t k
    have h := ih (Tr.setP .none (.cells d 0) (path k) t) (k + 1)
    have e : k + 1 + ds.length = k + (d :: ds).length := by simp; omega
    rw [e] at h
    exact h
theorem mkH_rows (l : List AObj) (ds : List (List V)) : mkH (lapp l (rows ds)) = pushAll ds (mkH l) := by
  have h : pushAll ds (mkH l) = ⟨trL (rows ds) (llen l) (trL l 0 .nil), llen l + ds.length⟩ := pushAll_rows ds _ _
  rw [h]
  unfold mkH
  rw [lapp_eq, trL_app, llen_eq, llen_eq, Nat.zero_add]
  congr 1
  unfold rows
  rw [lmap_eq]
  simp
noncomputable def resB (l : List AObj) (v3 : V) (ds : List (List V)) (v : V) (H : Heap) : Bool :=
  (fun s => and (viewB (llen l) s H (lapp l (rows ds))) (vwB (sg s) (llen (lapp l (rows ds))) dpt v v3)) (lapp (iota (llen l) 0) (gcF (llen l) H 4000 (blkV dpt v) []))
noncomputable def entB (cf : CA) (e : Ent) : Bool :=
  Option.casesOn (motive := fun _ => Bool) (cf (.fn e.f) e.args (mkH e.l)) false fun outs => lall (fun r => resB e.l e.v e.ds r.1 r.2) outs
def EntOk (P : Program) (G : Nat) (e : Ent) : Prop := CallTo P G (.fn e.f) e.args (mkH e.l) fun v H' => v = e.v ∧ H' = pushAll e.ds (mkH e.l)
section
variable {P : Program} {G : Nat}
theorem ent_ok {cf : CA} (hcf : CAOk P G cf) {e : Ent} (h : entB cf e = true) : EntOk P G e := by
  unfold entB at h
  cases hc : cf (.fn e.f) e.args (mkH e.l) with
  | none => rw [hc] at h; cases h
  | some outs =>
    rw [hc] at h
    refine (hcf hc).view fun v H' hm => ?_
    have h1 := lall_ok h _ hm
    have h2 : and _ _ = true := h1
    rw [Bool.and_eq_true] at h2
    have h3 := viewB_ok h2.1
    have h4 := vwB_ok _ _ _ h2.2
    rw [mkH_rows] at h3
    refine ⟨_, e.v, pushAll e.ds (mkH e.l), h3, ?_, rfl, rfl⟩
    rw [← mkH_rows]
    exact h4
/-- one outcome of the plain evaluator -/
noncomputable def ofE (cf : CF) : CA := fun t a H => obind (cf t a H) fun r => some [r]
theorem ofE_ok {cf : CF} (h : CFOk P G cf) : CAOk P G (ofE cf) := by
  intro t args H outs ho
  obtain ⟨⟨v, H'⟩, h1, h2⟩ := obind_some.1 (show obind (cf t args H) (fun r => some [r]) = some outs from ho)
  cases h2
  exact (h h1).mono fun v1 H1 ⟨e1, e2⟩ => by rw [e1, e2]; exact List.mem_cons_self
/-- a single outcome -/
noncomputable def ofA (cf : CA) : CF := fun t a H => obind (cf t a H) fun rs => match rs with | [r] => some r | _ => Option.none
theorem ofA_ok {cf : CA} (h : CAOk P G cf) : CFOk P G (ofA cf) := by
  intro t args H v H' ho
  obtain ⟨rs, h1, h2⟩ := obind_some.1 (show obind (cf t args H) (fun rs => match rs with | [r] => some r | _ => Option.none) = some (v, H') from ho)
  cases rs with
  | nil => cases h2
  | cons r rs =>
    cases rs with
    | cons _ _ => cases h2
    | nil =>
      cases h2
      refine (h h1).mono fun v1 H1 hm => ?_
      cases hm with
      | head => exact ⟨rfl, rfl⟩
      | tail _ hm => cases hm

/-- a block of a call's own memory in the greater heap -/
noncomputable def cblk (s : Nat → Nat) (k : Nat) (H : Heap) (o2 : AObj) (b : Nat) : Bool := match o2 with
  | .none => (match H.get (s b) with | .cells _ g => or (Nat.beq g 0) (and (Nat.ble 0 g) (grpIs (H.get g) (s b))) | _ => true)
  | .cells cs2 g2 => (match H.get (s b) with
      | .cells cs g => and (Nat.beq g2 0) (and (lall2 (vxB s k dpt) cs cs2) (or (Nat.beq g 0) (grpAt (H.get g) (s b))))
      | _ => false)
  | _ => false
noncomputable def cblks (s : Nat → Nat) (k : Nat) (H : Heap) (l : List AObj) : Nat → Bool :=
  List.rec (motive := fun _ => Nat → Bool) (fun _ => true) (fun o _ ih b => and (cblk s k H o b) (ih (Nat.succ b))) l
theorem cblks_ok {s : Nat → Nat} {k : Nat} {H : Heap} : ∀ {l : List AObj} {b : Nat}, cblks s k H l b = true → ∀ (i : Nat) (o : AObj), l[i]? = some o → cblk s k H o (b + i) = true := by
  intro l
  induction l with
  | nil => intro b _ i o h; simp at h
  | cons a l ih =>
    intro b h i o hi
    have h' : and (cblk s k H a b) (cblks s k H l (b + 1)) = true := h
    rw [Bool.and_eq_true] at h'
    cases i with
    | zero => simp at hi; subst hi; exact h'.1
    | succ i =>
      have := ih h'.2 i o (by simpa using hi)
      rw [Nat.add_assoc, Nat.add_comm 1 i] at this
      exact this
noncomputable def cviewB (G : Nat) (s : List Nat) (H : Heap) (l : List AObj) : Bool :=
  and (and (Nat.ble G (llen l)) (and (Nat.beq (llen s) (llen l)) (ndB s))) (and (allN (fun g => Nat.beq (sg s g) g) G) (cblks (sg s) (llen l) H l 0))
theorem grpAt_ok {o : AObj} {b : Nat} (h : grpAt o b = true) : o = .grp b b := by
  cases o <;> first | (cases h; done) | skip
  rename_i x y
  have h' : and (Nat.beq x b) (Nat.beq y b) = true := h
  rw [Bool.and_eq_true, beq_eq, beq_eq] at h'
  rw [h'.1, h'.2]
theorem cviewB_ok {s : List Nat} {H : Heap} {l : List AObj} (h : cviewB G s H l = true) : CView G (sg s) H (mkH l) := by
  unfold cviewB at h
  rw [Bool.and_eq_true, Bool.and_eq_true, Bool.and_eq_true, Bool.and_eq_true, ble_le, beq_eq] at h
  obtain ⟨⟨h1, h2, h3⟩, h4, h5⟩ := h
  have hk : (mkH l).next = llen l := rfl
  have hout : ∀ b, (mkH l).next ≤ b → (mkH l).get b = .none := by
    intro b hb
    rw [mkH_get, List.getElem?_eq_none (by rw [mkH_next] at hb; exact hb)]; rfl
  have hin : ∀ b, (mkH l).get b ≠ .none → b < llen l := fun b hb => Nat.lt_of_not_le fun h => hb (hout b (by rw [hk]; exact h))
  have hblk : ∀ b, b < llen l → cblk (sg s) (llen l) H ((mkH l).get b) b = true := by
    intro b hb
    have hb' : b < l.length := by rw [← llen_eq]; exact hb
    have := cblks_ok h5 b l[b] (List.getElem?_eq_getElem hb')
    rw [Nat.zero_add] at this
    rw [mkH_get, List.getElem?_eq_getElem hb']
    exact this
  have hcells : ∀ b cs2 g2, (mkH l).get b = .cells cs2 g2 → g2 = 0 ∧ ∃ cs g, H.get (sg s b) = .cells cs g ∧ Vxs (sg s) (llen l) cs cs2 ∧ (g = 0 ∨ H.get g = .grp (sg s b) (sg s b)) := by
    intro b cs2 g2 e
    have hb := hin b (by rw [e]; intro h; cases h)
    have h6 := hblk b hb
    rw [e] at h6
    unfold cblk at h6
    cases e3 : H.get (sg s b) <;> simp only [e3] at h6 <;> first | (cases h6; done) | skip
    rename_i cs g
    rw [Bool.and_eq_true, Bool.and_eq_true, Bool.or_eq_true, beq_eq, beq_eq] at h6
    exact ⟨h6.1, cs, g, rfl, vxs_ok (vxB_ok _) h6.2.1, h6.2.2.imp id grpAt_ok⟩
  have hlive : ∀ {b g : Nat}, (g = 0 ∨ H.get g = .grp b b) → H.lives b g = true := by
    intro b g h
    rcases h with h | h
    · exact lives_iff.2 (.inl h)
    · exact lives_iff.2 (.inr ⟨b, b, h, Nat.le_refl _⟩)
  refine ⟨⟨Nat.zero_le _, fun b hb => absurd hb (Nat.not_lt_zero _), ?_, hout, ?_, fun b hb => absurd hb (Nat.not_lt_zero _), fun b _ _ hb => absurd hb (Nat.not_lt_zero _), ?_, ?_, ?_, ?_⟩, h1, fun g hg => (beq_eq _ _).1 (allN_ok h4 g hg), ?_, ?_⟩
  · intro b b' hb hb' e
    exact ndB_ok h3 b b' (by rw [← llen_eq, h2]; exact hb) (by rw [← llen_eq, h2]; exact hb') e
  · intro b cs g _ hb e1 e2
    have h6 := hblk b hb
    rw [e1] at h6
    unfold cblk at h6
    simp only [e2] at h6
    exact leafB_ok h6
  · intro b cs2 g2 e1 _
    obtain ⟨_, cs, g, k1, k2, k3⟩ := hcells b cs2 g2 e1
    exact ⟨cs, g, k1, hlive k3, k2.vws⟩
  · intro b cs2 g2 _ e1
    obtain ⟨rfl, cs, g, k1, k2, k3⟩ := hcells b cs2 g2 e1
    exact ⟨lives_iff.2 (.inl rfl), cs, g, k1, fun _ => k3.imp id fun h => ⟨Nat.zero_le _, _, h⟩, fun h => absurd rfl h⟩
  · intro g leaf fl _ e
    have h6 := hblk g (hin g (by rw [e]; intro h; cases h))
    rw [e] at h6
    cases h6
  · intro b o2 e
    have h6 := hblk b (hin b (by rw [e]; intro h; cases h))
    rw [e] at h6
    cases h6
  · intro b cs2 g2 _ e1
    obtain ⟨rfl, cs, g, k1, k2, k3⟩ := hcells b cs2 g2 e1
    exact ⟨.inl rfl, cs, g, k1, k2, fun hg => k3.resolve_left hg⟩
  · intro b o2 _ e
    have h6 := hblk b (hin b (by rw [e]; intro h; cases h))
    rw [e] at h6
    cases h6
noncomputable def ovB (s : List Nat) (k next b : Nat) : Nat := Bool.casesOn (motive := fun _ => Nat) (lt b k) (Nat.add next (Nat.sub b k)) (sg s b)
theorem ovB_eq (s : List Nat) (k next : Nat) : ovB s k next = over (sg s) k next := by
  funext b
  unfold ovB over
  cases h : lt b k with
  | true => rw [if_pos (lt_ok.1 h)]
  | false => rw [if_neg (fun h' => by rw [lt_ok.2 h'] at h; cases h)]; rfl
noncomputable def renD (f : V → Option V) (ds : List (List V)) : Option (List (List V)) :=
  List.rec (motive := fun _ => Option (List (List V))) (some []) (fun d _ ih => obind (renL f d) fun x => obind ih fun r => some (x :: r)) ds
theorem renD_ok {f : V → Option V} : ∀ {ds dB : List (List V)}, renD f ds = some dB → dB.length = ds.length ∧ ∀ (i : Nat) (d : List V), ds[i]? = some d → ∃ d', dB[i]? = some d' ∧ renL f d = some d' := by
  intro ds
  induction ds with
  | nil => intro dB h; cases h; exact ⟨rfl, fun i d h => by simp at h⟩
  | cons d ds ih =>
    intro dB h
    obtain ⟨x, h1, h⟩ := obind_some.1 (show obind (renL f d) (fun x => obind (renD f ds) fun r => some (x :: r)) = some dB from h)
    obtain ⟨r, h2, h⟩ := obind_some.1 h
    cases h
    obtain ⟨h3, h4⟩ := ih h2
    refine ⟨by simp [h3], fun i d' hi => ?_⟩
    cases i with
    | zero => simp at hi; subst hi; exact ⟨x, rfl, h1⟩
    | succ i => simpa using h4 i d' (by simpa using hi)
noncomputable def tryE (G : Nat) (s : List Nat) (args : List V) (H : Heap) (e : Ent) : Option (V × Heap) :=
  oif (and (lall2 (vwB (sg s) (llen e.l) dpt) args e.args) (cviewB G s H e.l)) <|
    obind (ren (ovB s (llen e.l) H.next) dpt e.v) fun v => obind (renD (ren (ovB s (llen e.l) H.next) dpt) e.ds) fun dB => some (v, pushAll dB H)
theorem tryE_ok {s : List Nat} {args : List V} {H : Heap} {e : Ent} (he : EntOk P G e) {v : V} {H' : Heap} (h : tryE G s args H e = some (v, H')) : CallTo P G (.fn e.f) args H fun v1 H1 => v1 = v ∧ H1 = H' := by
  obtain ⟨h1, h⟩ := oif_some.1 (show oif (and (lall2 (vwB (sg s) (llen e.l) dpt) args e.args) (cviewB G s H e.l)) _ = some (v, H') from h)
  obtain ⟨vB, h2, h⟩ := obind_some.1 h
  obtain ⟨dB, h3, h⟩ := obind_some.1 h
  cases h
  rw [Bool.and_eq_true] at h1
  rw [ovB_eq] at h2 h3
  obtain ⟨k1, k2⟩ := renD_ok h3
  exact call_lift (cviewB_ok h1.2) (vws_ok (vwB_ok _) h1.1) h2 k1 k2 he
noncomputable def tryL (G : Nat) (s : List Nat) (args : List V) (H : Heap) (es : List Ent) : Option (V × Heap) :=
  List.rec (motive := fun _ => Option (V × Heap)) Option.none (fun e _ ih => Option.casesOn (motive := fun _ => Option (V × Heap)) (tryE G s args H e) ih some) es
/-- the knowledge of a table of calls -/
noncomputable def tabO (G : Nat) (tb : FuncId → List Ent) (O : CF) : CF := fun t args H =>
  Tgt.casesOn (motive := fun _ => Option (V × Heap)) t (fun f => Option.casesOn (motive := fun _ => Option (V × Heap))
    (List.casesOn (motive := fun _ => Option (V × Heap)) (tb f) Option.none fun e es => tryL G (lapp (iota G 0) (gcF G H 4000 (lflat (blkV dpt) args) [])) args H (e :: es)) (O t args H) some) (fun _ => O t args H)
theorem tryL_ok {s : List Nat} {args : List V} {H : Heap} {f : FuncId} {v : V} {H' : Heap} : ∀ {es : List Ent}, (∀ e ∈ es, e.f = f ∧ EntOk P G e) → tryL G s args H es = some (v, H') → CallTo P G (.fn f) args H fun v1 H1 => v1 = v ∧ H1 = H' := by
  intro es
  induction es with
  | nil => intro _ h; cases h
  | cons e es ih =>
    intro hes h
    have h' : Option.casesOn (motive := fun _ => Option (V × Heap)) (tryE G s args H e) (tryL G s args H es) some = some (v, H') := h
    cases ht : tryE G s args H e with
    | none => rw [ht] at h'; exact ih (fun e he => hes e (List.mem_cons_of_mem _ he)) h'
    | some r =>
      rw [ht] at h'
      cases h'
      obtain ⟨rfl, h2⟩ := hes e List.mem_cons_self
      exact tryE_ok h2 ht
theorem tabO_ok {tb : FuncId → List Ent} {O : CF} (htb : ∀ f, ∀ e ∈ tb f, e.f = f ∧ EntOk P G e) (hO : CFOk P G O) : CFOk P G (tabO G tb O) := by
  intro t args H v H' h
  cases t with
  | yld b => exact hO h
  | fn f =>
    have h' : Option.casesOn (motive := fun _ => Option (V × Heap))
      (List.casesOn (motive := fun _ => Option (V × Heap)) (tb f) Option.none fun e es => tryL G (lapp (iota G 0) (gcF G H 4000 (lflat (blkV dpt) args) [])) args H (e :: es)) (O (.fn f) args H) some = some (v, H') := h
    cases hl : tb f with
    | nil => rw [hl] at h'; exact hO h'
    | cons e es =>
      rw [hl] at h'
      have h2 : Option.casesOn (motive := fun _ => Option (V × Heap)) (tryL G (lapp (iota G 0) (gcF G H 4000 (lflat (blkV dpt) args) [])) args H (e :: es)) (O (.fn f) args H) some = some (v, H') := h'
      cases ht : tryL G (lapp (iota G 0) (gcF G H 4000 (lflat (blkV dpt) args) [])) args H (e :: es) with
      | none => rw [ht] at h2; exact hO h2
      | some r =>
        rw [ht] at h2
        cases h2
        exact tryL_ok (by rw [← hl]; exact htb f) ht
end
end Go.Ev
/- The abstract evaluator, part Aw: a table of known calls by the function's number. -/
namespace Go.Ev
noncomputable def tabT (es : List Ent) : Tr (List Ent) := List.rec (motive := fun _ => Tr (List Ent)) .nil (fun e _ ih => Tr.setP [] (e :: Tr.getP [] (path e.f) ih) (path e.f) ih) es
noncomputable def tabOf (t : Tr (List Ent)) : FuncId → List Ent := fun f => Tr.getP [] (path f) t
theorem tabT_mem : ∀ {es : List Ent} {f : FuncId} {e : Ent}, e ∈ (tabT es).get [] f → e ∈ es ∧ e.f = f := by
  intro es
  induction es with
  | nil =>
    intro f e h
    have h' : e ∈ (Tr.nil : Tr (List Ent)).get [] f := h
    rw [Tr.get_nil] at h'
    cases h'
  | cons a es ih =>
    intro f e h
    have h' : e ∈ ((tabT es).set [] a.f (a :: (tabT es).get [] a.f)).get [] f := h
    rw [Tr.get_set] at h'
    split at h'
    · rename_i hf
      cases h' with
      | head => exact ⟨List.mem_cons_self, hf⟩
      | tail _ h2 =>
        obtain ⟨h3, h4⟩ := ih h2
        exact ⟨List.mem_cons_of_mem _ h3, h4.trans hf⟩
    · obtain ⟨h3, h4⟩ := ih h'
      exact ⟨List.mem_cons_of_mem _ h3, h4⟩
section
variable {P : Program} {G : Nat}
theorem ents_ok {cf : CA} (hcf : CAOk P G cf) {es : List Ent} (h : lall (entB cf) es = true) : ∀ e ∈ es, EntOk P G e := fun e he => ent_ok hcf (lall_ok h e he)
theorem tabT_ok {es : List Ent} (h : ∀ e ∈ es, EntOk P G e) {O : CF} (hO : CFOk P G O) : CFOk P G (tabO G (tabOf (tabT es)) O) :=
  tabO_ok (fun _ _ he => let ⟨h1, h2⟩ := tabT_mem he; ⟨h2, h _ h1⟩) hO
end
end Go.Ev
