/- The pure statement of PlanReads: all that could be read of an act is Done then, but of one that wants whole sectors; if all could be, all is. No conditions. -/
import Derived.Test.YtnoilinjlelpaaaPx0
import Derived.Test.YtnoilinjlelpaaaPx19
import Derived.Test.YtnoilinjlelpaaaPx46
import Derived.Test.YtnoilinjlelpaaaOpen
import Derived.Test.YtnoilinjlelpaaaRegS
import Derived.Test.YtnoilinjlelpaaaPlanG
import Derived.Test.YtnoilinjlelpaaaPurePlanRuns
namespace Go.Proofs.Ytnoilinjlelpaaa.Pure
set_option linter.unusedSimpArgs false
set_option linter.unusedVariables false
open Go.RowKit Go.Proofs.YtnoilinjlelpaaaW.PrintWords Go.Proofs.YtnoilinjlelpaaaW.PrintLast Go.Proofs.YtnoilinjlelpaaaW.PrintMore Go.Proofs.Ytnoilinjlelpaaa.P Go.Proofs.Ytnoilinjlelpaaa.Open Go.Proofs.Ytnoilinjlelpaaa.Reg

theorem u16_range {x : Int} (h : (Lit.int .u16 x).wf = true) : 0 ≤ x ∧ x ≤ 65535 := by
  simp only [Lit.wf, Bool.and_eq_true, decide_eq_true_eq] at h
  exact h
theorem PlanReads : ∀ (x0 : S23) (x1 : S26) (x2 : Int) (x3 : Int), WF23 x0 → WF26 x1 → (Lit.int .u16 x2).wf = true → (Lit.int .i64 x3).wf = true → ∃ k, salvorlaw18_PlanReads.f k x0.f0 x0.f1 x0.f2 x1.f0 x1.f1 x1.f2 x1.f3 x2 x3 = some true := by
  intro o m got pos _ _ wgot wpos
  obtain ⟨c, r, b⟩ := o
  obtain ⟨p, q, s, l⟩ := m
  show ∃ k, salvorlaw18_PlanReads.f k c r b p q s l got pos = some true
  have hpos := i64_range wpos
  have hgot := u16_range wgot
  refine Ev.rounds ?_
  have hruns : Ev (fun k => (salvorlaw18_PlanRuns.f k).bind fun t => some t) true := Ev.bind (Ev.of salvorlaw18_PlanRuns.mono PlanRuns.choose_spec) (Ev.now _)
  have hj0 : Ev (fun k => salvorlaw18_PlanReads.j0 k got pos true c r b p q s l) true := Ev.step (f := fun k => _) (fun k => by rw [salvorlaw18_PlanReads.j0, if_pos rfl]) hruns
  unfold salvorlaw18_PlanReads.f
  simp only [salvorlaw16_Few.f, opts_eq, Option.bind_some, decide_eq_true_eq]
  refine ev_ite (fun hfew => ?_) (fun _ => hj0)
  cases ho : optsD c r with
  | false => simp only [Bool.false_eq_true, if_false]; exact hj0
  | true =>
    simp only [if_true]
    refine Ev.bind (mapmay_ev p q s l (by omega)) ?_
    cases hm : mapD p q s l with
    | false => exact hj0
    | true =>
      obtain ⟨hl, h2, h3, h4⟩ := mapD_spec hm
      obtain ⟨h5, h6⟩ := optsD_spec ho
      have hend := mayL_end hl (by omega)
      have hN := Next_ev (b := b) ho hm
      have w0 : wrap64 got = got := wrap_in (by omega) (by omega)
      refine Ev.step (f := fun k => _) (fun k => by rw [salvorlaw18_PlanReads.j0, if_neg (by decide), w0]) ?_
      refine Ev.bind hN ?_
      rcases next_spec hl c r b p q h5 h2 with e | ⟨kind, x, y, fr, e, k1, k4, x0, y1, y2, xy, hf, -, hz⟩
      · obtain ⟨hA, hA2, hA3⟩ := after_ev (b := b) (by omega) ho hm got
        rw [e] at hA ⊢
        have hL : afterL l (0, 0, 0, false) got = l := rfl
        rw [hL] at hA
        simp only [if_true]
        refine Ev.bind hA ?_
        refine Ev.bind (same_self l (by omega)) ?_
        simp only [if_true]
        exact hruns
      · have w1 : wrap64 (y + 1) = y + 1 := wrap_in (by omega) (by omega)
        have e1 : Int.tmod got (y + 1) = got % (y + 1) := Int.tmod_eq_emod_of_nonneg (by omega)
        have hn0 : 0 ≤ got % (y + 1) := Int.emod_nonneg _ (by omega)
        have hn1 : got % (y + 1) < y + 1 := Int.emod_lt_of_pos _ (by omega)
        rw [e]
        simp only [w1, e1]
        generalize got % (y + 1) = n at hn0 hn1 ⊢
        obtain ⟨hA, hA2, hA3⟩ := after_ev (b := b) (by omega) ho hm n
        have hl2 := (mapD_spec hA2).1
        have hend2 := mayL_end hl2 (by omega)
        rw [e] at hA hl2 hend2 hA3
        have hmx : mx n 0 = n := by unfold mx; split <;> omega
        have hmn : mn n y = n := by unfold mn; split <;> omega
        have hL : afterL l (kind, x, y, fr) n = doneD l kind x y n := by unfold afterL; simp only; rw [if_neg (by omega), hmx, hmn]
        rw [hL] at hA hl2 hend2 hA3
        have hds := done_st hl kind x y n x0 y1 xy (by omega)
        have hC1 := count_ev (doneD l kind x y n) (by omega) [43] (by simp)
        have hC2 := count_ev l (by omega) [43] (by simp)
        have hT := at_ev (doneD l kind x y n) (by omega) pos
        rw [if_pos hl2] at hC1 hT
        rw [if_pos hl] at hC2
        have hkd : statD kind ≠ 43 := by
          have : kind = 1 ∨ kind = 2 ∨ kind = 3 ∨ kind = 4 := by omega
          rcases this with h | h | h | h <;> subst h <;> decide
        -- statuses in the act's places, and in the region that is made unscraped
        have old : ∀ z, x ≤ z → z < x + y → stAt 0 l z ≠ some 43 := fun z z0 z1 h => by
          rw [hz z z0 z1] at h; exact hkd (Option.some.inj h)
        have reg : ∀ z, (atL x l).1 ≤ z → z < (atL x l).1 + (atL x l).2.1 → stAt 0 l z ≠ some 43 := by
          intro z i1 i2 h
          obtain ⟨ra, rb, rs, t1, t2, t3, t4⟩ := atL_st hl (by omega) x x0 (by omega)
          obtain ⟨u0, u1, u2⟩ := atL_reg hl (by omega) t1
          rw [t1] at i1 i2
          have v1 := u2 z i1 i2
          have v2 := hz x (by omega) (by omega)
          rw [h] at v1
          rw [t2] at v2
          rw [← Option.some.inj v1] at v2
          exact hkd (Option.some.inj v2).symm
        have inm : ∀ z, x ≤ z → z < x + y → stAt 0 l z = some (statD kind) := hz
        have hcount : ∀ d : Int, 0 ≤ d → d ≤ y → (∀ z, x ≤ z → z < x + d → newS kind x y n (atL x l).1 (atL x l).2.1 z (statD kind) = 43) → (∀ z, x + d ≤ z → z < x + y → newS kind x y n (atL x l).1 (atL x l).2.1 z (statD kind) ≠ 43) → cntL [43] 0 (doneD l kind x y n) = cntL [43] 0 l + d := by
          intro d d0 d1 c1 c2
          rw [count_places hl2, count_places hl, hA3]
          refine cnt_more (x := x) (n := d) x0 d0 (by omega) (fun z z0 z1 hni => ?_) (fun z z0 z1 => old z z0 (by omega)) (fun z z0 z1 => ?_)
          · rw [hds z]
            by_cases i : x ≤ z ∧ z < x + y
            · rw [inm z i.1 i.2, Option.map_some]
              constructor
              · intro h; exact absurd (Option.some.inj h) hkd
              · intro h; exact absurd (Option.some.inj h) (c2 z (by omega) i.2)
            · cases hs : stAt 0 l z with
              | none => simp
              | some s1 =>
                rw [Option.map_some]
                unfold newS
                rw [if_neg i]
                by_cases g : kind = 2 ∧ n ≠ y ∧ (atL x l).1 ≤ z ∧ z < (atL x l).1 + (atL x l).2.1
                · rw [if_pos g]
                  have := reg z g.2.2.1 g.2.2.2
                  rw [hs] at this
                  constructor
                  · intro h; exact absurd h this
                  · intro h; simp at h
                · rw [if_neg g]
          · rw [hds z, inm z z0 (by omega), Option.map_some, c1 z z0 z1]
        have hw : ∀ d : Int, 0 ≤ d → d ≤ y → cntL [43] 0 (doneD l kind x y n) = cntL [43] 0 l + d → wrap64 (cntL [43] 0 (doneD l kind x y n) - cntL [43] 0 l) = d := by
          intro d d0 d1 h
          rw [h, show cntL [43] 0 l + d - cntL [43] 0 l = d by omega]
          exact wrap_in (by omega) (by omega)
        have wn : wrap64 (x + n) = x + n := wrap_in (by omega) (by omega)
        have hj2 : ∀ v : Int, v = wrap64 (cntL [43] 0 (doneD l kind x y n) - cntL [43] 0 l) → ∀ P Q S, Ev (fun k => salvorlaw18_PlanReads.j2 k pos n (wrap64 (cntL [43] 0 (doneD l kind x y n) - cntL [43] 0 l)) v kind x y P Q S (doneD l kind x y n)) true := by
          intro v hv P Q S
          refine Ev.step (f := fun k => _) (fun k => by rw [salvorlaw18_PlanReads.j2]) ?_
          refine Ev.bind hT ?_
          refine ev_ite (fun g1 => ?_) (fun g1 => ev_ite (fun _ => hruns) (fun h => absurd hv.symm h))
          refine ev_ite (fun _ => ?_) (fun h => absurd hv.symm h)
          rw [wn]
          refine ev_ite (fun g2 => ?_) (fun _ => hruns)
          have told : (kind = 1 ∨ n = y) → Ev (fun k => if (atL pos (doneD l kind x y n)).2.2.2 = true then if (atL pos (doneD l kind x y n)).2.2.1 = 43 then (salvorlaw18_PlanRuns.f k).bind fun t => some t else some false else some false) true := by
            intro hk
            have hs := hds pos
            rw [inm pos g1 (by omega), Option.map_some] at hs
            have e43 : newS kind x y n (atL x l).1 (atL x l).2.1 pos (statD kind) = 43 := by
              unfold newS
              rw [if_pos ⟨g1, by omega⟩]
              rcases hk with h | h
              · rw [if_pos h, if_pos g2]
              · by_cases c : kind = 1
                · rw [if_pos c, if_pos g2]
                · rw [if_neg c, if_pos h]
            rw [e43] at hs
            rcases atL_all hl2 pos with ⟨a2, b2, s2, r1, r2, r3, r4⟩ | ⟨r1, r2⟩
            · rw [r1]
              rw [r2] at hs
              refine ev_ite (fun _ => ?_) (fun h => absurd rfl h)
              exact ev_ite (fun _ => hruns) (fun h => absurd (Option.some.inj hs) h)
            · rw [r2] at hs; cases hs
          refine ev_ite (fun c1 => told (.inl c1)) (fun c1 => ?_)
          exact ev_ite (fun _ => hruns) (fun c2 => told (.inr (by omega)))
        refine ev_ite (fun h => by omega) (fun _ => ?_)
        refine ev_ite (fun h => by omega) (fun _ => ?_)
        refine Ev.bind hA (Ev.bind hC1 (Ev.bind hC2 ?_))
        refine ev_ite (fun g1 => ?_) (fun g1 => ?_)
        · refine Ev.step (f := fun k => _) (fun k => by rw [salvorlaw18_PlanReads.j1, if_pos rfl]) ?_
          refine hj2 n (hw n hn0 (by omega) (hcount n hn0 (by omega) (fun z z0 z1 => ?_) (fun z z0 z1 => ?_))).symm _ _ _
          · unfold newS; rw [if_pos ⟨z0, by omega⟩, if_pos g1, if_pos z1]
          · unfold newS; rw [if_pos ⟨by omega, z1⟩, if_pos g1, if_neg (by omega)]; decide
        · by_cases g2 : n = y
          · rw [show (n == y) = true by rw [g2]; exact beq_self_eq_true _]
            refine Ev.step (f := fun k => _) (fun k => by rw [salvorlaw18_PlanReads.j1, if_pos rfl]) ?_
            refine hj2 n (hw n hn0 (by omega) (hcount n hn0 (by omega) (fun z z0 z1 => ?_) (fun z z0 z1 => by omega))).symm _ _ _
            unfold newS; rw [if_pos ⟨z0, by omega⟩, if_neg g1, if_pos g2]
          · rw [show (n == y) = false by simpa using g2]
            refine Ev.step (f := fun k => _) (fun k => by rw [salvorlaw18_PlanReads.j1, if_neg (by decide)]) ?_
            refine hj2 0 (hw 0 (by omega) (by omega) (hcount 0 (by omega) (by omega) (fun z z0 z1 => by omega) (fun z z0 z1 => ?_))).symm _ _ _
            unfold newS; rw [if_pos ⟨by omega, z1⟩, if_neg g1, if_neg g2]; decide
end Go.Proofs.Ytnoilinjlelpaaa.Pure
