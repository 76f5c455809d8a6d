/- The pure statement of PlanAfter: of any map what it is then, whatever could be read. No conditions. -/
import Derived.Test.YtnoilinjlelpaaaPx0
import Derived.Test.YtnoilinjlelpaaaPx18
import Derived.Test.YtnoilinjlelpaaaPx19
import Derived.Test.YtnoilinjlelpaaaPx31
import Derived.Test.YtnoilinjlelpaaaPx34
import Derived.Test.YtnoilinjlelpaaaPx35
import Derived.Test.YtnoilinjlelpaaaOpen
import Derived.Test.YtnoilinjlelpaaaPlanZ
import Derived.Test.YtnoilinjlelpaaaRegZ
import Derived.Test.YtnoilinjlelpaaaPurePlanRuns
namespace Go.Proofs.Ytnoilinjlelpaaa.Pure
set_option linter.unusedSimpArgs false
set_option linter.unusedVariables false
open Go.RowKit Go.Proofs.YtnoilinjlelpaaaW.PrintWords Go.Proofs.YtnoilinjlelpaaaW.PrintLast Go.Proofs.YtnoilinjlelpaaaW.PrintMore Go.Proofs.Ytnoilinjlelpaaa.P Go.Proofs.Ytnoilinjlelpaaa.Open Go.Proofs.Ytnoilinjlelpaaa.Reg

theorem After_no {c r : Int} {b : Bool} {p q s : Int} {l : List S33} (hlen : l.length ≤ 1000000) (h : optsD c r = false ∨ mapD p q s l = false) (got : Int) : Ev (fun k => plan_After.f k c r b p q s l got) (p, q, s, l) := by
  have hj : Ev (fun k => plan_After.j0 k got true c r b p q s l) (p, q, s, l) := Ev.step (f := fun _ => _) (fun k => by rw [plan_After.j0, if_pos rfl]) (Ev.now _)
  unfold plan_After.f
  simp only [copied_eq p q s hlen, opts_eq, Option.bind_some]
  cases ho : optsD c r with
  | false => simp only [Bool.false_eq_true, if_false]; exact hj
  | true =>
    simp only [if_true]
    have h2 := mapmay_ev p q s l (by omega)
    rw [show mapD p q s l = false by simp_all] at h2
    exact Ev.bind h2 hj
theorem refAfter_no {c r : Int} {b : Bool} {p q s : Int} {l : List S33} (hlen : l.length ≤ 1000000) (h : optsD c r = false ∨ mapD p q s l = false) (got : Int) : Ev (fun k => salvorref16_After.f k c r b p q s l got) (p, q, s, l) := by
  have hj : Ev (fun k => salvorref16_After.j0 k got true c r b p q s l) (p, q, s, l) := Ev.step (f := fun _ => _) (fun k => by rw [salvorref16_After.j0, if_pos rfl]) (Ev.now _)
  unfold salvorref16_After.f
  simp only [refcopy_eq p q s hlen, refopts_eq, Option.bind_some]
  cases ho : optsD c r with
  | false => simp only [Bool.false_eq_true, if_false]; exact hj
  | true =>
    simp only [if_true]
    have h2 := refmap_ev p q s l (by omega)
    rw [show mapD p q s l = false by simp_all] at h2
    exact Ev.bind h2 hj
theorem refAfter_ev {c r : Int} {b : Bool} {p q s : Int} {l : List S33} (hlen : l.length ≤ 1000000) (ho : optsD c r = true) (hm : mapD p q s l = true) (got : Int) :
    Ev (fun k => salvorref16_After.f k c r b p q s l got) (afterP b p (nextD c r b p q l), afterQ q (nextD c r b p q l), statD (nextD c r b (afterP b p (nextD c r b p q l)) (afterQ q (nextD c r b p q l)) (afterL l (nextD c r b p q l) got)).1, afterL l (nextD c r b p q l) got) := by
  obtain ⟨hl, h2, h3, h4⟩ := mapD_spec hm
  obtain ⟨h5, h6⟩ := optsD_spec ho
  have hend := mayL_end hl (by omega)
  obtain ⟨-, hA2, hA3⟩ := after_ev (b := b) hlen ho hm got
  have hN := refnext_ev (b := b) ho hm
  have hM := refmap_ev p q s l (by omega)
  rw [hm] at hM
  -- the end: the map with its status
  have hj4 : ∀ (P Q : Int) (L : List S33), mapD P Q s L = true → Ev (fun k => salvorref16_After.j4 k c r b P Q s L) (P, Q, statD (nextD c r b P Q L).1, L) := by
    intro P Q L h
    refine Ev.step (f := fun k => _) (fun k => by rw [salvorref16_After.j4]) ?_
    exact Ev.bind (reftold_ev ho h) (Ev.now _)
  obtain ⟨m1, m2, m3, -⟩ := mapD_spec hA2
  have hms : mapD (afterP b p (nextD c r b p q l)) (afterQ q (nextD c r b p q l)) s (afterL l (nextD c r b p q l) got) = true := map_mk m1 m2 m3 h4
  unfold salvorref16_After.f
  simp only [refcopy_eq p q s hlen, refopts_eq, ho, Option.bind_some, if_true]
  refine Ev.bind hM ?_
  refine Ev.step (f := fun k => _) (fun k => by rw [salvorref16_After.j0, if_neg (by decide)]) ?_
  refine Ev.step (f := fun k => _) (fun k => by rw [salvorref16_After.j1]) ?_
  refine Ev.bind hN ?_
  have hmx := mx_ge got 0
  rcases next_spec hl c r b p q h5 h2 with e | ⟨kind, x, y, fr, e, k1, k4, x0, y1, y2, xy, hf, -, hz⟩
  · rw [e] at hms hA2 ⊢
    simp only [show ((0 : Int) = 1) = False by decide, show ((0 : Int) = 2) = False by decide, show ((0 : Int) = 3) = False by decide, show ((0 : Int) = 4) = False by decide, if_false]
    exact hj4 _ _ _ hms
  · have hmn := mn_le (mx got 0) y
    have hL : afterL l (kind, x, y, fr) got = doneD l kind x y (mn (mx got 0) y) := by unfold afterL; simp only; rw [if_neg (by omega)]
    rw [e, hL] at hms m1 hA3
    rw [e, hL]
    have hds := done_st hl kind x y (mn (mx got 0) y) x0 y1 xy (by omega)
    generalize mn (mx got 0) y = g at *
    have hpq : kind ≠ 4 → afterP b p (kind, x, y, fr) = p ∧ afterQ q (kind, x, y, fr) = q := fun h => by
      refine ⟨by unfold afterP; rw [if_neg h], ?_⟩
      unfold afterQ
      cases fr with
      | true => exact absurd (hf rfl).1 h
      | false => rfl
    -- what the reference makes of the regions is the same
    have same : ∀ L : List S33, mayL 0 none L = true → endOf 0 L = endOf 0 l → (∀ z, stAt 0 L z = stAt 0 (doneD l kind x y g) z) → L = doneD l kind x y g := fun L a1 a2 a3 => canon _ _ 0 none (by omega) a1 m1 (a2.trans hA3.symm) a3
    have mapc : ∀ (o : Option Int) (f g : Int → Int), (∀ s, o = some s → f s = g s) → o.map f = o.map g := fun o f g h => by
      cases o with
      | none => rfl
      | some s => simp [h s rfl]
    by_cases c1 : kind = 1
    · subst c1
      rw [(hpq (by decide)).1, (hpq (by decide)).2] at hms ⊢
      simp only [if_true]
      obtain ⟨a1, a2, a3, a4⟩ := set_may hl (pos := x) (n := y) (st := 42) x0 (by omega) rfl
      obtain ⟨b1, b2, b3, b4⟩ := set_may a2 (pos := x) (n := g) (st := 43) x0 (by omega) rfl
      refine Ev.bind (refset_may hl x0 (by omega) rfl) ?_
      refine Ev.bind (refset_may a2 x0 (by omega) rfl) ?_
      have := same _ b2 (b3.trans a3) (fun z => by
        rw [b4 z, a4 z, hds z, Option.map_map]
        refine mapc _ _ _ (fun s' hs => ?_)
        simp only [Function.comp, newS, if_true]
        by_cases i : x ≤ z ∧ z < x + y
        · rw [if_pos i, if_pos i]
          by_cases j : z < x + g
          · rw [if_pos ⟨i.1, j⟩, if_pos j]
          · rw [if_neg (by omega), if_neg j]
        · rw [if_neg i, if_neg i, if_neg (by omega), if_neg (by omega)])
      rw [this]
      exact hj4 _ _ _ hms
    · have hone : ∀ st : Int, isS st = true → (∀ z, x ≤ z → z < x + y → newS kind x y g (atL x l).1 (atL x l).2.1 z (statD kind) = st) → (∀ z s', ¬ (x ≤ z ∧ z < x + y) → newS kind x y g (atL x l).1 (atL x l).2.1 z s' = s') → Ev (fun k => salvorref16_Set.f k l x y st) (doneD l kind x y g) := by
        intro st hst i1 i2
        obtain ⟨a1, a2, a3, a4⟩ := set_may hl (pos := x) (n := y) (st := st) x0 (by omega) hst
        have := same _ a2 a3 (fun z => by
          rw [a4 z, hds z]
          refine mapc _ _ _ (fun s' hs => ?_)
          by_cases i : x ≤ z ∧ z < x + y
          · rw [if_pos i]
            have := hz z i.1 i.2
            rw [hs] at this
            rw [Option.some.inj this, i1 z i.1 i.2]
          · rw [if_neg i, i2 z s' i])
        rw [← this]
        exact refset_may hl x0 (by omega) hst
      by_cases c2 : kind = 2
      · subst c2
        rw [(hpq (by decide)).1, (hpq (by decide)).2] at hms ⊢
        simp only [show ((2 : Int) = 1) = False by decide, if_false, if_true]
        refine ev_ite (fun d1 => ?_) (fun d1 => ?_)
        · refine Ev.bind (hone 43 rfl (fun z z0 z1 => ?_) (fun z s' hi => ?_)) (hj4 _ _ _ hms)
          · unfold newS; rw [if_pos ⟨z0, z1⟩, if_neg (by decide), if_pos d1]
          · unfold newS; rw [if_neg hi, if_neg (by simp [d1])]
        · have hat := atref_ev l (by omega) x
          rw [if_pos hl] at hat
          obtain ⟨ra, rb, rs, t1, t2, t3, t4⟩ := atL_st hl (by omega) x x0 (by omega)
          obtain ⟨u0, u1, u2⟩ := atL_reg hl (by omega) t1
          refine Ev.bind hat ?_
          rw [t1]
          obtain ⟨a1, a2, a3, a4⟩ := set_may hl (pos := ra) (n := rb) (st := 47) u0 (by omega) rfl
          have hd : doneD l 2 x y g = setM (setM l ra rb 47) x y 45 := by
            unfold doneD
            rw [if_neg (by decide), if_neg d1, if_pos rfl, t1]
          refine Ev.bind (refset_may hl (pos := ra) (n := rb) (st := 47) u0 (by omega) rfl) ?_
          refine Ev.bind (refset_may a2 x0 (by omega) rfl) ?_
          rw [← hd]
          exact hj4 _ _ _ hms
      · by_cases c3 : kind = 3
        · subst c3
          rw [(hpq (by decide)).1, (hpq (by decide)).2] at hms ⊢
          simp only [show ((3 : Int) = 1) = False by decide, show ((3 : Int) = 2) = False by decide, if_false, if_true]
          refine ev_ite (fun d1 => ?_) (fun d1 => ?_)
          · refine Ev.bind (hone 43 rfl (fun z z0 z1 => ?_) (fun z s' hi => ?_)) (hj4 _ _ _ hms)
            · unfold newS; rw [if_pos ⟨z0, z1⟩, if_neg (by decide), if_pos d1]
            · unfold newS; rw [if_neg hi, if_neg (by simp)]
          · refine Ev.bind (hone 45 rfl (fun z z0 z1 => ?_) (fun z s' hi => ?_)) (hj4 _ _ _ hms)
            · unfold newS; rw [if_pos ⟨z0, z1⟩, if_neg (by decide), if_neg d1]
            · unfold newS; rw [if_neg hi, if_neg (by simp)]
        · obtain rfl : kind = 4 := by omega
          simp only [show ((4 : Int) = 1) = False by decide, show ((4 : Int) = 2) = False by decide, show ((4 : Int) = 3) = False by decide, if_false, if_true]
          have w1 : wrap64 (x + y) = x + y := wrap_in (by omega) (by omega)
          have w2 : wrap64 (q + 1) = q + 1 := wrap_in (by omega) (by omega)
          have hj2 : Ev (fun k => salvorref16_After.j2 k fr c r b p q s (doneD l 4 x y g) 4 x y) (afterP b p (4, x, y, fr), afterQ q (4, x, y, fr), statD (nextD c r b (afterP b p (4, x, y, fr)) (afterQ q (4, x, y, fr)) (doneD l 4 x y g)).1, doneD l 4 x y g) := by
            have hj3 : ∀ P : Int, P = afterP b p (4, x, y, fr) → Ev (fun k => salvorref16_After.j3 k fr c r b P q s (doneD l 4 x y g)) (afterP b p (4, x, y, fr), afterQ q (4, x, y, fr), statD (nextD c r b (afterP b p (4, x, y, fr)) (afterQ q (4, x, y, fr)) (doneD l 4 x y g)).1, doneD l 4 x y g) := by
              intro P hP
              subst hP
              refine Ev.step (f := fun k => _) (fun k => by rw [salvorref16_After.j3, w2]) ?_
              have := hj4 _ _ _ hms
              cases fr with
              | true => simp only [if_true]; exact this
              | false => simp only [Bool.false_eq_true, if_false]; exact this
            refine Ev.step (f := fun k => _) (fun k => by rw [salvorref16_After.j2, w1]) ?_
            refine ev_ite (fun i => hj3 x ?_) (fun i => hj3 (x + y) ?_)
            · unfold afterP; simp [i]
            · unfold afterP; simp [i]
          refine ev_ite (fun d1 => ?_) (fun d1 => ?_)
          · refine Ev.bind (hone 43 rfl (fun z z0 z1 => ?_) (fun z s' hi => ?_)) hj2
            · unfold newS; rw [if_pos ⟨z0, z1⟩, if_neg (by decide), if_pos d1]
            · unfold newS; rw [if_neg hi, if_neg (by simp)]
          · have : l = doneD l 4 x y g := same l hl rfl (fun z => by
              rw [hds z]
              cases hs : stAt 0 l z with
              | none => rfl
              | some s' =>
                rw [Option.map_some]
                unfold newS
                by_cases i : x ≤ z ∧ z < x + y
                · rw [if_pos i, if_neg (by decide), if_neg d1]
                  have := hz z i.1 i.2
                  rw [hs] at this
                  exact this
                · rw [if_neg i, if_neg (by simp)])
            rw [← this] at hj2 ⊢
            exact hj2
theorem PlanAfter : ∀ (x0 : S23) (x1 : S26) (x2 : Int), WF23 x0 → WF26 x1 → (Lit.int .i64 x2).wf = true → ∃ k, salvorlaw18_PlanAfter.f k x0.f0 x0.f1 x0.f2 x1.f0 x1.f1 x1.f2 x1.f3 x2 = some true := by
  intro o m got _ _ _
  obtain ⟨c, r, b⟩ := o
  obtain ⟨p, q, s, l⟩ := m
  show ∃ k, salvorlaw18_PlanAfter.f k c r b p q s l got = some true
  refine Ev.rounds ?_
  have hruns : Ev (fun k => (salvorlaw18_PlanRuns.f k).bind fun t => some t) true := Ev.bind (Ev.of salvorlaw18_PlanRuns.mono PlanRuns.choose_spec) (Ev.now _)
  unfold salvorlaw18_PlanAfter.f
  simp only [salvorlaw16_Few.f, Option.bind_some, decide_eq_true_eq]
  refine ev_ite (fun hfew => ?_) (fun _ => hruns)
  by_cases h : optsD c r = true ∧ mapD p q s l = true
  · obtain ⟨ho, hm⟩ := h
    obtain ⟨hA, hA2, -⟩ := after_ev (b := b) (by omega) ho hm got
    have hB := refAfter_ev (b := b) (by omega) ho hm got
    have hl2 := mayL_end (mapD_spec hA2).1 (by omega)
    refine Ev.bind hA (Ev.bind hB ?_)
    refine Ev.bind (samemap_self _ _ _ _ (by show (afterL l (nextD c r b p q l) got).length ≤ 4611686018427387904; omega)) ?_
    simp only [if_true]
    exact hruns
  · have h' : optsD c r = false ∨ mapD p q s l = false := by
      cases h1 : optsD c r with
      | false => exact .inl rfl
      | true =>
        cases h2 : mapD p q s l with
        | false => exact .inr rfl
        | true => exact absurd ⟨h1, h2⟩ h
    refine Ev.bind (After_no (by omega) h' got) (Ev.bind (refAfter_no (by omega) h' got) ?_)
    refine Ev.bind (samemap_self p q s l (by omega)) ?_
    simp only [if_true]
    exact hruns
end Go.Proofs.Ytnoilinjlelpaaa.Pure
