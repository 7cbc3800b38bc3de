/- LowerShapes from its start, on whatever tape and numbers. -/
import Derived.Test.YtofkmenlcnjolaaGreatDoorHr
namespace Go.Proofs.YtofkmenlcnjolaaGreatDoor
open Go.Ev
theorem wrapK_small : ∀ m : Nat, m < 60 → wrapK .i64 (.ofNat m) = .ofNat m := by decide +kernel
theorem head_rem (x : Int) (n : Nat) (hn : n = 4 ∨ n = 25) : ∃ v : Nat, v < n ∧ Int.tmod (wrapK .i64 (Int.add (Int.tmod x (.ofNat n)) (.ofNat n))) (.ofNat n) = .ofNat v := by
  have hp : (0 : Int) < n := by rcases hn with rfl | rfl <;> decide
  have h1 : -(n : Int) < x.tmod n := Int.lt_tmod_of_pos x hp
  have h2 : x.tmod n < n := Int.tmod_lt_of_pos x hp
  obtain ⟨m, hm⟩ : ∃ m : Nat, x.tmod n + n = (m : Int) := ⟨(x.tmod n + n).toNat, by omega⟩
  have hm2 : m < 60 := by rcases hn with rfl | rfl <;> omega
  have e : Int.add (Int.tmod x (.ofNat n)) (.ofNat n) = .ofNat m := hm
  rw [e, wrapK_small m hm2]
  exact ⟨m % n, Nat.mod_lt _ (by omega), rfl⟩
noncomputable def F0 (lv : V) (x y : Int) : Fr := frame0 [lv, .int .i64 x, .int .i64 y] 0 .nil
noncomputable def r0 (p : Pk) (lv : V) (x y : Int) : CR := rn (s1 body3) (F0 lv x y) (mkH (g9 p))
noncomputable def p1 : List Ins := match plan? (s1 k1) with | some l => l | Option.none => []
noncomputable def a1 : List Ins := p1.take 1
noncomputable def b1 : List Ins := p1.drop 2
noncomputable def sW : Step := match p1.drop 1 with | .ex s :: _ => s | _ => noStep
theorem p1_eq : plan? (s1 k1) = some (a1 ++ (.ex sW :: b1)) := by kernel_rfl
noncomputable def oF (o : Option (Fr × Heap)) : Fr := match o with | some r => r.1 | Option.none => .nil
noncomputable def oH (o : Option (Fr × Heap)) : Heap := match o with | some r => r.2 | Option.none => ⟨.nil, 0⟩
theorem o_eq {o : Option (Fr × Heap)} (h : o.isSome = true) : o = some (oF o, oH o) := by
  cases o with
  | none => cases h
  | some r => rfl
noncomputable def m1 (p : Pk) (lv : V) (x y : Int) : Option (Fr × Heap) := runIns noO a1 (stF (r0 p lv x y)) (stH (r0 p lv x y))
noncomputable def m2 (p : Pk) (lv : V) (x y : Int) (tb : AObj) : Option (Fr × Heap) := runIns noO b1 (put (oF (m1 p lv x y)) sW.dst (.ptr 9 0)) (Hm p tb)
noncomputable def r2 (p : Pk) (lv : V) (x y : Int) (tb : AObj) : CR := rn (s1 k2) (oF (m2 p lv x y tb)) (oH (m2 p lv x y tb))
noncomputable def remE (x : Int) (n : Nat) : Int := Int.tmod (wrapK .i64 (Int.add (Int.tmod x (.ofNat n)) (.ofNat n))) (.ofNat n)
noncomputable def startL (p : Pk) (lv : V) (x y : Int) (tb : AObj) : Bool × Bool × Heap × Option Bool × Option (Tgt × List V) × Bool × Bool × Heap × V × V × V :=
  (isNorm (r0 p lv x y), (m1 p lv x y).isSome, oH (m1 p lv x y), sW.want (oF (m1 p lv x y)), callAt sW (oF (m1 p lv x y)), (m2 p lv x y tb).isSome, isNorm (r2 p lv x y tb), stH (r2 p lv x y tb),
    (stF (r2 p lv x y tb)).get V.undef 1, (stF (r2 p lv x y tb)).get V.undef 2, (stF (r2 p lv x y tb)).get V.undef 7)
theorem start_eq (p : Pk) (lv : V) (x y : Int) (tb : AObj) : startL p lv x y tb = (true, true, mkH (g9 p), some true, some (.fn 4, [lv]), true, true, Hm p tb, .int .i64 (remE x 4), .int .i64 (remE y 25), .ptr 9 0) := by kernel_rfl
theorem anyF_get (t : Nat) (h : t < 82) : anyF.get V.undef t = .any := by
  unfold anyF
  rw [frame0_get]
  have e : (List.replicate 82 V.any)[t - 0]? = some V.any := by rw [Nat.sub_zero, List.getElem?_replicate, if_pos h]
  rw [if_pos ⟨Nat.zero_le _, by rw [List.length_replicate]; omega⟩, e]
  rfl
theorem Fm_get (v : Nat) (dv : V) (t : Nat) (h : t < 82) : (Fm v dv).get V.undef t = if 7 = t then .ptr 9 0 else if 2 = t then dv else if 1 = t then I v else .any := by
  unfold Fm
  rw [Tr.get_set, Tr.get_set, Tr.get_set, anyF_get t h]
/-- from the second region on -/
theorem k2_ws {B : Nat} {p : Pk} {lv : V} {x y : Int} {tb : AObj} (e7 : isNorm (r2 p lv x y tb) = true) (e8 : stH (r2 p lv x y tb) = Hm p tb) (e9 : (stF (r2 p lv x y tb)).get V.undef 1 = .int .i64 (remE x 4)) (e10 : (stF (r2 p lv x y tb)).get V.undef 2 = .int .i64 (remE y 25)) (e11 : (stF (r2 p lv x y tb)).get V.undef 7 = .ptr 9 0)
    (h : ∀ v d : Nat, v < 4 → d < 25 → WS Tryz.prog 8 B 82 false k3 (Fm v (I d)) (Hm p tb) (QQ p)) : WS Tryz.prog 8 B 82 false k2 (oF (m2 p lv x y tb)) (oH (m2 p lv x y tb)) (QQ p) := by
  obtain ⟨_, _, hs2, _⟩ := shapes
  obtain ⟨_, ho2, _⟩ := okC
  unfold r2 at e7
  refine ws_rn hs2 ho2 e7 ?_
  show WS Tryz.prog 8 B 82 false k3 (stF (r2 p lv x y tb)) (stH (r2 p lv x y tb)) (QQ p)
  rw [e8]
  obtain ⟨v, hv, ev⟩ := head_rem x 4 (.inl rfl)
  obtain ⟨d, hd, ed⟩ := head_rem y 25 (.inr rfl)
  refine WS_fr (F2 := Fm v (I d)) ?_ (h v d hv hd)
  intro t ht φ u hu
  rw [Fm_get _ _ _ ht]
  split
  · rename_i e; subst e; rw [e11] at hu; exact hu
  · split
    · rename_i e; subst e
      rw [e10] at hu
      unfold remE at hu
      rw [ed] at hu
      exact hu
    · split
      · rename_i e; subst e
        rw [e9] at hu
        unfold remE at hu
        rw [ev] at hu
        exact hu
      · exact .any u
theorem one_ws {B : Nat} {a b : List Ins} {s : Step} {c : Code} {F F1 F3 : Fr} {H H1 H2 H3 : Heap} {t : Tgt} {args : List V} {v0 : V} {Q : X → Fr → Heap → Prop} (hp : plan? c = some (a ++ (.ex s :: b))) (hm : runIns noO a F H = some (F1, H1)) (hw : s.want F1 = some true) (hc : callAt s F1 = some (t, args))
    (hn : CallTo Tryz.prog 8 t args H1 fun v H' => v = v0 ∧ H' = H2) (hm2 : runIns noO b (put F1 s.dst v0) H2 = some (F3, H3)) (hq : Q .norm F3 H3) : WS Tryz.prog 8 B 82 false c F H Q :=
  mid_ws hp hm hw hc (hn.mono (by
    rintro v H' ⟨rfl, rfl⟩
    exact runs_of noO_ok hm2 hq))
theorem start_ws {B : Nat} {p : Pk} {lv : V} {x y : Int} {tb : AObj}
    (hnew : CallTo Tryz.prog 8 (.fn 4) [lv] (mkH (g9 p)) fun v H' => v = .ptr 9 0 ∧ H' = Hm p tb)
    (h : ∀ v d : Nat, v < 4 → d < 25 → WS Tryz.prog 8 B 82 false k3 (Fm v (I d)) (Hm p tb) (QQ p)) : WS Tryz.prog 8 B 82 false body3 (F0 lv x y) (mkH (g9 p)) (QQ p) := by
  obtain ⟨hs0, hs1, _⟩ := shapes
  obtain ⟨ho0, _⟩ := okC
  have hst := start_eq p lv x y tb
  unfold startL at hst
  simp only [Prod.mk.injEq] at hst
  obtain ⟨e1, e2, e3, e4, e5, e6, e7, e8, e9, e10, e11⟩ := hst
  have hk2 := k2_ws (B := B) e7 e8 e9 e10 e11 h
  unfold r0 at e1
  refine ws_rn hs0 ho0 e1 ?_
  show WS Tryz.prog 8 B 82 false k1 (stF (r0 p lv x y)) (stH (r0 p lv x y)) (QQ p)
  rw [isSeq_ok hs1]
  refine WS_seq ?_
  have hm1 : runIns noO a1 (stF (r0 p lv x y)) (stH (r0 p lv x y)) = some (oF (m1 p lv x y), oH (m1 p lv x y)) := o_eq (o := m1 p lv x y) e2
  have hm2 : runIns noO b1 (put (oF (m1 p lv x y)) sW.dst (.ptr 9 0)) (Hm p tb) = some (oF (m2 p lv x y tb), oH (m2 p lv x y tb)) := o_eq (o := m2 p lv x y tb) e6
  have hn : CallTo Tryz.prog 8 (.fn 4) [lv] (oH (m1 p lv x y)) fun v H' => v = .ptr 9 0 ∧ H' = Hm p tb := by rw [e3]; exact hnew
  have hq : thenQ (fun F1 H1 => WS Tryz.prog 8 B 82 false (s2 k1) F1 H1 (QQ p)) (QQ p) .norm (oF (m2 p lv x y tb)) (oH (m2 p lv x y tb)) := hk2
  exact one_ws (a := a1) (b := b1) (s := sW) p1_eq hm1 e4 e5 hn hm2 hq
end Go.Proofs.YtofkmenlcnjolaaGreatDoor
