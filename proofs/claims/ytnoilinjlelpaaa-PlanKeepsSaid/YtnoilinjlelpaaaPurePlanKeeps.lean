/- The pure statement of PlanKeeps: no act has a place that is Done; no place that is Done gets another status; the map that comes of it may be, with the same end. No conditions. -/
import Derived.Test.YtnoilinjlelpaaaPx0
import Derived.Test.YtnoilinjlelpaaaPx19
import Derived.Test.YtnoilinjlelpaaaPx36
import Derived.Test.YtnoilinjlelpaaaOpen
import Derived.Test.YtnoilinjlelpaaaPlanG
import Derived.Test.YtnoilinjlelpaaaPurePlanRuns
namespace Go.Proofs.Ytnoilinjlelpaaa.Pure
set_option linter.unusedSimpArgs false
set_option linter.unusedVariables false
open Go.RowKit Go.Proofs.YtnoilinjlelpaaaW.PrintWords Go.Proofs.YtnoilinjlelpaaaW.PrintLast Go.Proofs.YtnoilinjlelpaaaW.PrintMore Go.Proofs.Ytnoilinjlelpaaa.P Go.Proofs.Ytnoilinjlelpaaa.Open Go.Proofs.Ytnoilinjlelpaaa.Reg

theorem PlanKeeps : ∀ (x0 : S23) (x1 : S26) (x2 : Int) (x3 : Int), WF23 x0 → WF26 x1 → (Lit.int .i64 x2).wf = true → (Lit.int .i64 x3).wf = true → ∃ k, salvorlaw18_PlanKeeps.f k x0.f0 x0.f1 x0.f2 x1.f0 x1.f1 x1.f2 x1.f3 x2 x3 = some true := by
  intro o m got pos _ _ _ wpos
  obtain ⟨c, r, b⟩ := o
  obtain ⟨p, q, s, l⟩ := m
  show ∃ k, salvorlaw18_PlanKeeps.f k c r b p q s l got pos = some true
  have hpos := i64_range wpos
  refine Ev.rounds ?_
  have hruns : Ev (fun k => (salvorlaw18_PlanRuns.f k).bind fun t => some t) true := Ev.bind (Ev.of salvorlaw18_PlanRuns.mono PlanRuns.choose_spec) (Ev.now _)
  have hj0 : Ev (fun k => salvorlaw18_PlanKeeps.j0 k got pos true c r b p q s l) true := Ev.step (f := fun k => _) (fun k => by rw [salvorlaw18_PlanKeeps.j0, if_pos rfl]) hruns
  unfold salvorlaw18_PlanKeeps.f
  simp only [salvorlaw16_Few.f, opts_eq, Option.bind_some, decide_eq_true_eq]
  refine ev_ite (fun hfew => ?_) (fun _ => hj0)
  cases ho : optsD c r with
  | false => simp only [Bool.false_eq_true, if_false]; exact hj0
  | true =>
    simp only [if_true]
    refine Ev.bind (mapmay_ev p q s l (by omega)) ?_
    cases hm : mapD p q s l with
    | false => exact hj0
    | true =>
      obtain ⟨hl, h2, h3, h4⟩ := mapD_spec hm
      obtain ⟨h5, h6⟩ := optsD_spec ho
      have hend := mayL_end hl (by omega)
      have hN := Next_ev (b := b) ho hm
      obtain ⟨hA, hA2, hA3⟩ := after_ev (b := b) (by omega) ho hm got
      have hl2 := (mapD_spec hA2).1
      have hend2 := mayL_end hl2 (by omega)
      have hM := mapmay_ev (afterP b p (nextD c r b p q l)) (afterQ q (nextD c r b p q l)) (statD (nextD c r b (afterP b p (nextD c r b p q l)) (afterQ q (nextD c r b p q l)) (afterL l (nextD c r b p q l) got)).1) (afterL l (nextD c r b p q l) got) (by omega)
      rw [hA2] at hM
      have hE1 := end_ev (afterL l (nextD c r b p q l) got) (by omega)
      have hE2 := end_ev l (by omega)
      rw [if_pos hl2, hA3] at hE1
      rw [if_pos hl] at hE2
      have hT1 := at_ev l (by omega) pos
      have hT2 := at_ev (afterL l (nextD c r b p q l) got) (by omega) pos
      rw [if_pos hl] at hT1
      rw [if_pos hl2] at hT2
      have hj3 : ∀ (x12 x15 : Bool) (a1 a2 s1 b1 b2 s2 : Int), (x12 = true → x15 = true ∨ s2 = s1 ∨ (s1 = 42 ∧ s2 = 47)) → Ev (fun k => salvorlaw18_PlanKeeps.j3 k x12 x15 false a1 a2 s1 b1 b2 s2) true := by
        intro x12 x15 a1 a2 s1 b1 b2 s2 h
        refine Ev.step (f := fun k => _) (fun k => by rw [salvorlaw18_PlanKeeps.j3, if_neg (by decide)]) ?_
        refine ev_ite (fun c1 => ?_) (fun _ => hruns)
        refine ev_ite (fun _ => hruns) (fun c2 => ?_)
        refine ev_ite (fun _ => hruns) (fun c3 => ?_)
        rcases h c1 with h | h | h
        · exact absurd h c2
        · exact absurd h c3
        · refine ev_ite (fun _ => ?_) (fun h' => absurd h.1 h')
          exact ev_ite (fun _ => hruns) (fun h' => absurd h.2 h')
      have hj2 : ∀ (x15 : Bool) (u v : Int × Int × Int × Bool), u.2.2.2 = v.2.2.2 → (u.2.2.2 = true → u.2.2.1 = 43 → x15 = false ∧ v.2.2.1 = 43) → (u.2.2.2 = true → x15 = true ∨ v.2.2.1 = u.2.2.1 ∨ (u.2.2.1 = 42 ∧ v.2.2.1 = 47)) →
          Ev (fun k => salvorlaw18_PlanKeeps.j2 k u.2.2.2 v.2.2.2 x15 u.1 u.2.1 u.2.2.1 v.1 v.2.1 v.2.2.1) true := by
        intro x15 u v e1 e2 e3
        refine Ev.step (f := fun k => _) (fun k => by rw [salvorlaw18_PlanKeeps.j2, if_neg (by rw [e1]; simp)]) ?_
        refine ev_ite (fun c1 => ?_) (fun _ => hj3 _ _ _ _ _ _ _ _ e3)
        refine ev_ite (fun c2 => ?_) (fun _ => hj3 _ _ _ _ _ _ _ _ e3)
        obtain ⟨g1, g2⟩ := e2 c1 c2
        refine ev_ite (fun c3 => by rw [g1] at c3; cases c3) (fun _ => ?_)
        rw [show (v.2.2.1 != 43) = false by rw [g2]; rfl]
        exact hj3 _ _ _ _ _ _ _ _ e3
      refine Ev.step (f := fun k => _) (fun k => by rw [salvorlaw18_PlanKeeps.j0, if_neg (by decide)]) ?_
      refine Ev.bind hN (Ev.bind hA (Ev.bind hM ?_))
      simp only [if_true]
      refine Ev.bind hE1 (Ev.bind hE2 ?_)
      simp only [if_true]
      rcases next_spec hl c r b p q h5 h2 with e | ⟨kind, x, y, fr, e, k1, k4, x0, y1, y2, xy, hf, -, hz⟩
      · rw [e] at hT2 ⊢
        have hL : afterL l (0, 0, 0, false) got = l := rfl
        rw [hL] at hT2 ⊢
        simp only [if_true]
        refine Ev.step (f := fun k => _) (fun k => by rw [salvorlaw18_PlanKeeps.j1, if_neg (by decide)]) ?_
        refine Ev.bind hT1 (Ev.bind hT2 ?_)
        simp only [if_true]
        exact hj2 false _ _ rfl (fun _ h => ⟨rfl, h⟩) (fun _ => .inr (.inl rfl))
      · rw [e] at hT2 ⊢
        have hmx := mx_ge got 0
        have hmn := mn_le (mx got 0) y
        have hL : afterL l (kind, x, y, fr) got = doneD l kind x y (mn (mx got 0) y) := by unfold afterL; simp only; rw [if_neg (by omega)]
        have hds := done_st hl kind x y (mn (mx got 0) y) x0 y1 xy (by omega) pos
        have hl2' : mayL 0 none (doneD l kind x y (mn (mx got 0) y)) = true := by rw [← hL, ← e]; exact hl2
        rw [hL] at hT2 ⊢
        have w1 : wrap64 (x + y) = x + y := wrap_in (by omega) (by omega)
        have hkd : statD kind ≠ 43 := by
          have : kind = 1 ∨ kind = 2 ∨ kind = 3 ∨ kind = 4 := by omega
          rcases this with h | h | h | h <;> subst h <;> decide
        -- what the two look-ups tell
        have key : ∀ x15 : Bool, (x15 = true ↔ x ≤ pos ∧ pos < x + y) → Ev (fun k => salvorlaw18_PlanKeeps.j2 k (atL pos l).2.2.2 (atL pos (doneD l kind x y (mn (mx got 0) y))).2.2.2 x15 (atL pos l).1 (atL pos l).2.1 (atL pos l).2.2.1 (atL pos (doneD l kind x y (mn (mx got 0) y))).1 (atL pos (doneD l kind x y (mn (mx got 0) y))).2.1 (atL pos (doneD l kind x y (mn (mx got 0) y))).2.2.1) true := by
          intro x15 hin
          rcases atL_all hl pos with ⟨a1, b1, s1, q1, q2, q3, q4⟩ | ⟨q1, q2⟩
          · rw [q2, Option.map_some] at hds
            rcases atL_all hl2' pos with ⟨a2, b2, s2, r1, r2, r3, r4⟩ | ⟨r1, r2⟩
            · rw [r2] at hds
              have es : s2 = newS kind x y (mn (mx got 0) y) (atL x l).1 (atL x l).2.1 pos s1 := Option.some.inj hds
              rw [q1, r1]
              refine hj2 x15 _ _ rfl (fun _ h => ?_) (fun _ => ?_)
              · have h43 : s1 = 43 := h
                have hnin : ¬ (x ≤ pos ∧ pos < x + y) := by
                  intro ⟨i1, i2⟩
                  have := hz pos i1 i2
                  rw [q2, h43] at this
                  exact hkd (Option.some.inj this).symm
                refine ⟨?_, ?_⟩
                · cases x15 with
                  | true => exact absurd (hin.1 rfl) hnin
                  | false => rfl
                · show s2 = 43
                  rw [es]
                  unfold newS
                  rw [if_neg hnin, if_neg, h43]
                  intro ⟨k2, _, i1, i2⟩
                  obtain ⟨ra, rb, rs, t1, t2, t3, t4⟩ := atL_st hl (by omega) x x0 (by omega)
                  obtain ⟨u0, u1, u2⟩ := atL_reg hl (by omega) t1
                  rw [t1] at i1 i2
                  have v1 := u2 pos i1 i2
                  have v2 := hz x (by omega) (by omega)
                  rw [q2, h43] at v1
                  rw [t2] at v2
                  rw [← Option.some.inj v1] at v2
                  exact hkd (Option.some.inj v2).symm
              · by_cases hnin : x ≤ pos ∧ pos < x + y
                · exact .inl (hin.2 hnin)
                · refine .inr ?_
                  show s2 = s1 ∨ s1 = 42 ∧ s2 = 47
                  rw [es]
                  unfold newS
                  rw [if_neg hnin]
                  by_cases g : kind = 2 ∧ mn (mx got 0) y ≠ y ∧ (atL x l).1 ≤ pos ∧ pos < (atL x l).1 + (atL x l).2.1
                  · rw [if_pos g]
                    refine .inr ⟨?_, rfl⟩
                    obtain ⟨k2, _, i1, i2⟩ := g
                    obtain ⟨ra, rb, rs, t1, t2, t3, t4⟩ := atL_st hl (by omega) x x0 (by omega)
                    obtain ⟨u0, u1, u2⟩ := atL_reg hl (by omega) t1
                    rw [t1] at i1 i2
                    have v1 := u2 pos i1 i2
                    have v2 := hz x (by omega) (by omega)
                    rw [t2] at v2
                    rw [q2] at v1
                    rw [Option.some.inj v1, Option.some.inj v2, k2]
                    rfl
                  · rw [if_neg g]; exact .inl rfl
            · rw [r2] at hds; cases hds
          · rw [q2, Option.map_none] at hds
            rcases atL_all hl2' pos with ⟨a2, b2, s2, r1, r2, r3, r4⟩ | ⟨r1, r2⟩
            · rw [r2] at hds; cases hds
            · rw [q1, r1]
              exact hj2 x15 _ _ rfl (fun h => by cases h) (fun h => by cases h)
        have hj1 : Ev (fun k => salvorlaw18_PlanKeeps.j1 k pos false p q s l kind x y (afterP b p (kind, x, y, fr)) (afterQ q (kind, x, y, fr)) (statD (nextD c r b (afterP b p (kind, x, y, fr)) (afterQ q (kind, x, y, fr)) (doneD l kind x y (mn (mx got 0) y))).1) (doneD l kind x y (mn (mx got 0) y))) true := by
          refine Ev.step (f := fun k => _) (fun k => by rw [salvorlaw18_PlanKeeps.j1, if_neg (by decide)]) ?_
          refine Ev.bind hT1 (Ev.bind hT2 ?_)
          rw [w1]
          refine ev_ite (fun h => by omega) (fun _ => ?_)
          refine ev_ite (fun g1 => key _ ?_) (fun g1 => key false ?_)
          · rw [decide_eq_true_eq]; constructor <;> intro h <;> omega
          · constructor
            · intro h; cases h
            · intro h; omega
        refine ev_ite (fun h => by simp only at h; omega) (fun _ => ?_)
        refine ev_ite (fun h => by simp only at h; omega) (fun _ => ?_)
        refine ev_ite (fun h => by simp only at h; omega) (fun _ => ?_)
        refine ev_ite (fun h => by simp only at h; omega) (fun _ => ?_)
        refine Ev.bind hE2 ?_
        simp only [w1]
        rw [decide_eq_false (by omega)]
        exact hj1
end Go.Proofs.Ytnoilinjlelpaaa.Pure
