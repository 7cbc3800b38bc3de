/- LowerShapes from its closed runs. -/
import Derived.Test.YtofkmenlcnjolaaGreatDoorHf
namespace Go.Proofs.YtofkmenlcnjolaaGreatDoor
open Go.Ev
noncomputable def dep : List Ent := pick (lapp c5 (lapp c7 (lapp c8 (lapp c9 (lapp c10 (lapp c11 (lapp c12 (lapp c13 (lapp c14 (lapp c15 (lapp c16 (lapp c17 (lapp c18 (lapp c19 (lapp c26 (lapp c27 (lapp c28 (lapp c29 (lapp c30 (lapp c31 (lapp c34 (lapp c35 (lapp c36 (lapp c39 (lapp c40 (lapp c42 c43))))))))))))))))))))))))))
theorem dep_ok : ∀ e ∈ dep, EntOk Tryz.prog 8 e := pick_ok (memApp c5_ok (memApp c7_ok (memApp c8_ok (memApp c9_ok (memApp c10_ok (memApp c11_ok (memApp c12_ok (memApp c13_ok (memApp c14_ok (memApp c15_ok (memApp c16_ok (memApp c17_ok (memApp c18_ok (memApp c19_ok (memApp c26_ok (memApp c27_ok (memApp c28_ok (memApp c29_ok (memApp c30_ok (memApp c31_ok (memApp c34_ok (memApp c35_ok (memApp c36_ok (memApp c39_ok (memApp c40_ok (memApp c42_ok c43_ok))))))))))))))))))))))))))
noncomputable def O3 : CF := tabO 8 (tabOf (tabT dep)) noO
theorem O3_ok : CFOk Tryz.prog 8 O3 := tabT_ok dep_ok noO_ok
noncomputable def rn (c : Code) (F : Fr) (H : Heap) : CR := run 8 NN TT O3 400 82 false c F H
noncomputable def cf3 : CF := callE 8 NN TT O3 400
theorem cf3_ok : CFOk Tryz.prog 8 cf3 := call_ok (tys_ok _) (fns_ok _) O3_ok hmix 400
noncomputable def isNorm (r : CR) : Bool := match r with | .ok x _ _ => (match x with | .norm => true | _ => false) | .fail => false
noncomputable def stF (r : CR) : Fr := match r with | .ok _ F _ => F | .fail => .nil
noncomputable def stH (r : CR) : Heap := match r with | .ok _ _ H => H | .fail => ⟨.nil, 0⟩
theorem norm_eq {r : CR} (h : isNorm r = true) : r = .ok .norm (stF r) (stH r) := by
  cases r with
  | fail => cases h
  | ok x F H => cases x <;> first | rfl | cases h
theorem ws_rn {B : Nat} {c : Code} {F : Fr} {H : Heap} {Q : X → Fr → Heap → Prop} (hs : isSeq c = true) (hok : codeOk 8 82 (s1 c) = true) (hn : isNorm (rn (s1 c) F H) = true) (h : WS Tryz.prog 8 B 82 false (s2 c) (stF (rn (s1 c) F H)) (stH (rn (s1 c) F H)) Q) : WS Tryz.prog 8 B 82 false c F H Q := by
  rw [isSeq_ok hs]
  refine WS_seq ((run_ok (tys_ok _) (fns_ok _) O3_ok hmix 400 hok (norm_eq hn)).mono ?_)
  rintro x F' H' ⟨rfl, rfl, rfl⟩
  exact h
noncomputable def noExit (x : X) : Bool := match x with | .exit _ => false | _ => true
noncomputable def isT (v : V) : Bool := match v with | .bool b => b | _ => false
/-- the objects of the unknown variables, and that of the first argument -/
structure Pk where
  x2 : Obj
  x3 : Obj
  x5 : Obj
  x6 : Obj
  x7 : Obj
  lb : AObj
noncomputable def g9 (p : Pk) : List AObj := [.cells pow10 0, .cells tab64 0, .oth (.ro p.x2), .oth (.ro p.x3), .cells tab32 0, .oth (.ro p.x5), .oth (.ro p.x6), .oth (.ro p.x7), p.lb]
noncomputable def firsts (H : Heap) : List AObj := [H.get 0, H.get 1, H.get 2, H.get 3, H.get 4, H.get 5, H.get 6, H.get 7, H.get 8]
noncomputable def outT (r : CR) : List AObj := match r with
  | .ok x F H => Bool.casesOn (motive := fun _ => List AObj) (and (noExit x) (match resL TT F H res3 with | some l => isT (resM l) | Option.none => false)) [] (firsts H)
  | .fail => []
def QQ (p : Pk) (x : X) (F : Fr) (H : Heap) : Prop := (∀ id, x ≠ .exit id) ∧ (∃ l, resL TT F H res3 = some l ∧ resM l = .bool true) ∧ firsts H = g9 p
theorem out_ws {B : Nat} {p : Pk} {c : Code} {F : Fr} {H : Heap} (hok : codeOk 8 82 c = true) (h : outT (rn c F H) = g9 p) : WS Tryz.prog 8 B 82 false c F H (QQ p) := by
  cases hr : rn c F H with
  | fail => rw [hr] at h; cases h
  | ok x F' H' =>
    refine (run_ok (tys_ok _) (fns_ok _) O3_ok hmix 400 hok hr).mono ?_
    rintro x1 F1 H1 ⟨rfl, rfl, rfl⟩
    rw [hr] at h
    unfold outT at h
    cases hc : and (noExit x1) (match resL TT F1 H1 res3 with | some l => isT (resM l) | Option.none => false) with
    | false => simp only [hc] at h; cases h
    | true =>
      simp only [hc] at h
      rw [Bool.and_eq_true] at hc
      refine ⟨fun id e => ?_, ?_, h⟩
      · subst e; cases hc.1
      · cases hl : resL TT F1 H1 res3 with
        | none => simp only [hl] at hc; cases hc.2
        | some l =>
          simp only [hl] at hc
          refine ⟨l, rfl, ?_⟩
          have h2 := hc.2
          cases hv : resM l <;> rw [hv] at h2 <;> first | (cases h2; done) | skip
          rename_i b
          cases b
          · cases h2
          · rfl
noncomputable def anyF : Fr := frame0 (List.replicate 82 .any) 0 .nil
noncomputable def Fm (v : Nat) (dv : V) : Fr := Tr.set V.undef (Tr.set V.undef (Tr.set V.undef anyF 1 (I v)) 2 dv) 7 (.ptr 9 0)
noncomputable def Hm (p : Pk) (tb : AObj) : Heap := (mkH (g9 p)).push tb
noncomputable def rA (p : Pk) (v : Nat) (dv : V) (tb : AObj) : CR := rn (s1 k3) (Fm v dv) (Hm p tb)
noncomputable def rB (p : Pk) (v : Nat) (dv : V) (tb : AObj) : CR := rn (s1 q4) (stF (rA p v dv tb)) (stH (rA p v dv tb))
noncomputable def p5 : List Ins := match plan? R5 with | some l => l | Option.none => []
noncomputable def l3 : List Ins := p5.take 3
noncomputable def l4 : List Ins := p5.drop 4
noncomputable def noStep : Step := ⟨fun _ => Option.none, Option.none, .bad⟩
noncomputable def sN : Step := match p5.drop 3 with | .ex s :: _ => s | _ => noStep
noncomputable def m5 (p : Pk) (v : Nat) (dv : V) (tb : AObj) : Option (Fr × Heap) := runIns noO l3 (stF (rB p v dv tb)) (stH (rB p v dv tb))
noncomputable def F5 (p : Pk) (v : Nat) (dv : V) (tb : AObj) : Fr := match m5 p v dv tb with | some r => r.1 | Option.none => .nil
noncomputable def H5 (p : Pk) (v : Nat) (dv : V) (tb : AObj) : Heap := match m5 p v dv tb with | some r => r.2 | Option.none => ⟨.nil, 0⟩
noncomputable def callAt (s : Step) (F : Fr) : Option (Tgt × List V) := match s.cop with | .call xs g => g (vals xs F) | _ => Option.none
theorem ex_call {s : Step} {l : List Ins} {F : Fr} {H : Heap} {Q : Fr → Heap → Prop} {t : Tgt} {args : List V} (hw : s.want F = some true) (hc : callAt s F = some (t, args)) (h : CallTo Tryz.prog 8 t args H fun v H1 => RunsTo Tryz.prog 8 l (put F s.dst v) H1 Q) : RunsTo Tryz.prog 8 (.ex s :: l) F H Q := by
  refine .inr ⟨hw, ?_⟩
  unfold callAt at hc
  cases hs : s.cop <;> simp only [hs] at hc <;> first | (cases hc; done) | skip
  exact ⟨t, args, hc, h⟩
noncomputable def tailR (o : Option (Fr × Heap)) : List AObj := match o with
  | some r => outT (rn k5 r.1 r.2)
  | Option.none => []
noncomputable def tailG (b : List Ins) (s : Step) (F : Fr) (H : Heap) (r : Nat) (tb' : AObj) : List AObj := tailR (runIns cf3 b (put F s.dst (I r)) (H.set 9 tb'))
noncomputable def tailB (p : Pk) (v : Nat) (dv : V) (r : Nat) (tb tb' : AObj) : List AObj := tailG l4 sN (F5 p v dv tb) (H5 p v dv tb) r tb'
theorem mid_ws {B : Nat} {a b : List Ins} {s : Step} {c : Code} {F F1 : Fr} {H H1 : Heap} {t : Tgt} {args : List V} {Q : X → Fr → Heap → Prop} (hp : plan? c = some (a ++ (.ex s :: b))) (hm : runIns noO a F H = some (F1, H1)) (hw : s.want F1 = some true) (hc : callAt s F1 = some (t, args))
    (h : CallTo Tryz.prog 8 t args H1 fun v H2 => RunsTo Tryz.prog 8 b (put F1 s.dst v) H2 (Q .norm)) : WS Tryz.prog 8 B 82 false c F H Q :=
  plan_ws hp (RunsTo.app.2 (runs_of noO_ok hm (ex_call hw hc h)))
theorem tail_runs {p : Pk} {b : List Ins} {F : Fr} {H : Heap} {Q : Fr → Heap → Prop} (h : tailR (runIns cf3 b F H) = g9 p) (hq : ∀ F1 H1, outT (rn k5 F1 H1) = g9 p → Q F1 H1) : RunsTo Tryz.prog 8 b F H Q := by
  cases hrun : runIns cf3 b F H with
  | none => rw [hrun] at h; cases h
  | some p =>
    obtain ⟨F7, H7⟩ := p
    rw [hrun] at h
    exact runs_of cf3_ok hrun (hq _ _ h)
theorem next_mono {t : Tgt} {args : List V} {H : Heap} {v : Nat} {K : V → Heap → Prop} (h : CallTo Tryz.prog 8 t args H fun u H' => (∃ r : Nat, r < v ∧ u = I r) ∧ ∃ tb', H' = H.set 9 tb') (hk : ∀ r, r < v → ∀ tb', K (I r) (H.set 9 tb')) : CallTo Tryz.prog 8 t args H K := by
  refine h.mono ?_
  rintro u H' ⟨⟨r, hr, rfl⟩, tb', rfl⟩
  exact hk r hr tb'
theorem five_ws {B v : Nat} {p : Pk} {a b : List Ins} {s : Step} {c : Code} {F F1 : Fr} {H H1 : Heap} {Q : X → Fr → Heap → Prop} (hp : plan? c = some (a ++ (.ex s :: b))) (hm : runIns noO a F H = some (F1, H1)) (hw : s.want F1 = some true) (hc : callAt s F1 = some (.fn 9, [.ptr 9 0, I v]))
    (hn : CallTo Tryz.prog 8 (.fn 9) [.ptr 9 0, I v] H1 fun u H' => (∃ r : Nat, r < v ∧ u = I r) ∧ ∃ tb', H' = H1.set 9 tb') (ht : ∀ r, r < v → ∀ tb', tailG b s F1 H1 r tb' = g9 p) (hq : ∀ F1 H1, outT (rn k5 F1 H1) = g9 p → Q .norm F1 H1) : WS Tryz.prog 8 B 82 false c F H Q :=
  mid_ws hp hm hw hc (next_mono hn fun r hr tb' => tail_runs (ht r hr tb') hq)
structure HeadOk (p : Pk) (v : Nat) (dv : V) (tb : AObj) : Prop where
  a : isNorm (rA p v dv tb) = true
  b : isNorm (rB p v dv tb) = true
  c : (stF (rB p v dv tb)).get V.undef 30 = .bool true
  m : (m5 p v dv tb).isSome = true
  w : sN.want (F5 p v dv tb) = some true
  k : callAt sN (F5 p v dv tb) = some (.fn 9, [.ptr 9 0, I v])
  h9 : (H5 p v dv tb).get 9 = tb
  h8 : firsts (H5 p v dv tb) = g9 p
theorem p5_eq : plan? R5 = some (l3 ++ (.ex sN :: l4)) := by kernel_rfl
/-- from the third region on, one variable or more -/
theorem some_ws {B v : Nat} {p : Pk} {dv : V} {tb : AObj} (hh : HeadOk p v dv tb)
    (hnext : ∀ H : Heap, H.get 9 = tb → firsts H = g9 p → CallTo Tryz.prog 8 (.fn 9) [.ptr 9 0, I v] H fun u H' => (∃ r : Nat, r < v ∧ u = I r) ∧ ∃ tb', H' = H.set 9 tb')
    (ht : ∀ r, r < v → ∀ tb', tailB p v dv r tb tb' = g9 p) : WS Tryz.prog 8 B 82 false k3 (Fm v dv) (Hm p tb) (QQ p) := by
  obtain ⟨_, _, _, hs3, hs4, hsq, hcd⟩ := shapes
  obtain ⟨_, _, ho3, hoq, ho5⟩ := okC
  have ha := hh.a
  unfold rA at ha
  refine ws_rn hs3 ho3 ha ?_
  have hb := hh.b
  unfold rB at hb
  show WS Tryz.prog 8 B 82 false k4 (stF (rA p v dv tb)) (stH (rA p v dv tb)) (QQ p)
  rw [isSeq_ok hs4]
  refine WS_seq ?_
  show WS Tryz.prog 8 B 82 false q4 _ _ _
  refine ws_rn hsq hoq hb ?_
  rw [isCond30_ok hcd]
  refine WS_cond (f := fun F => F.get V.undef 30) (t := true) rfl rfl hh.c ?_
  show WS Tryz.prog 8 B 82 false R5 _ _ _
  have hm : m5 p v dv tb = some (F5 p v dv tb, H5 p v dv tb) := by
    have := hh.m
    unfold F5 H5
    cases h : m5 p v dv tb with
    | none => rw [h] at this; cases this
    | some r => rfl
  exact five_ws (a := l3) (b := l4) (s := sN) p5_eq hm hh.w hh.k (hnext _ hh.h9 hh.h8) ht (fun _ _ hx => out_ws ho5 hx)
structure ZeroOk (p : Pk) (dv : V) (tb : AObj) : Prop where
  a : isNorm (rA p 0 dv tb) = true
  b : isNorm (rB p 0 dv tb) = true
  c : (stF (rB p 0 dv tb)).get V.undef 30 = .bool false
  t : outT (rn k5 (stF (rB p 0 dv tb)) (stH (rB p 0 dv tb))) = g9 p
theorem zero_ws {B : Nat} {p : Pk} {dv : V} {tb : AObj} (hh : ZeroOk p dv tb) : WS Tryz.prog 8 B 82 false k3 (Fm 0 dv) (Hm p tb) (QQ p) := by
  obtain ⟨_, _, _, hs3, hs4, hsq, hcd⟩ := shapes
  obtain ⟨_, _, ho3, hoq, ho5⟩ := okC
  have ha := hh.a
  unfold rA at ha
  refine ws_rn hs3 ho3 ha ?_
  have hb := hh.b
  unfold rB at hb
  show WS Tryz.prog 8 B 82 false k4 (stF (rA p 0 dv tb)) (stH (rA p 0 dv tb)) (QQ p)
  rw [isSeq_ok hs4]
  refine WS_seq ?_
  show WS Tryz.prog 8 B 82 false q4 _ _ _
  refine ws_rn hsq hoq hb ?_
  rw [isCond30_ok hcd]
  refine WS_cond (f := fun F => F.get V.undef 30) (t := false) rfl rfl hh.c ?_
  exact WS_skip (out_ws ho5 hh.t)
end Go.Proofs.YtofkmenlcnjolaaGreatDoor
