/- The pure statement of PlanNext: of any map what is done next; which options may be; where it starts. No conditions. -/
import Derived.Test.YtnoilinjlelpaaaPx0
import Derived.Test.YtnoilinjlelpaaaPx3
import Derived.Test.YtnoilinjlelpaaaPx12
import Derived.Test.YtnoilinjlelpaaaPx19
import Derived.Test.YtnoilinjlelpaaaPx33
import Derived.Test.YtnoilinjlelpaaaPx40
import Derived.Test.YtnoilinjlelpaaaPx41
import Derived.Test.YtnoilinjlelpaaaPx42
import Derived.Test.YtnoilinjlelpaaaOpen
import Derived.Test.YtnoilinjlelpaaaPlanT
import Derived.Test.YtnoilinjlelpaaaPurePlanRuns
namespace Go.Proofs.Ytnoilinjlelpaaa.Pure
set_option linter.unusedSimpArgs false
set_option linter.unusedVariables false
open Go.RowKit Go.Proofs.YtnoilinjlelpaaaW.PrintWords Go.Proofs.YtnoilinjlelpaaaW.PrintLast Go.Proofs.YtnoilinjlelpaaaW.PrintMore Go.Proofs.Ytnoilinjlelpaaa.P Go.Proofs.Ytnoilinjlelpaaa.Open Go.Proofs.Ytnoilinjlelpaaa.Reg

theorem Next_no {c r : Int} {b : Bool} {p q s : Int} {l : List S33} (hlen : l.length ≤ 1000000) (h : optsD c r = false ∨ mapD p q s l = false) : Ev (fun k => plan_Next.f k c r b p q s l) (0, 0, 0) := by
  unfold plan_Next.f
  simp only [opts_eq, Option.bind_some]
  cases ho : optsD c r with
  | false => simp only [Bool.false_eq_true, if_false]; exact Ev.now _
  | true =>
    simp only [if_true]
    have h2 := mapmay_ev p q s l (by omega)
    rw [show mapD p q s l = false by simp_all] at h2
    refine Ev.bind h2 ?_
    simp only [Bool.false_eq_true, if_false]
    exact Ev.now _
theorem refBegin_ev {c r : Int} {b : Bool} {p q s : Int} {l : List S33} (hlen : l.length ≤ 1000000) (ho : optsD c r = true) (hm : mapD p q s l = true) :
    Ev (fun k => salvorref16_Begin.f k c r b p q s l) (edgeD b l, 0, statD (nextD c r b (edgeD b l) 0 l).1, l) := by
  obtain ⟨h1, h2, h3, h4⟩ := mapD_spec hm
  have he := edge_range h1 b
  unfold salvorref16_Begin.f
  simp only [refcopy_eq p q s hlen, refopts_eq, ho, Option.bind_some, if_true]
  have h := refmap_ev p q s l (by omega)
  rw [hm] at h
  refine Ev.bind h ?_
  refine Ev.step (f := fun k => _) (fun k => by rw [salvorref16_Begin.j0, if_neg (by decide)]) ?_
  refine Ev.step (f := fun k => _) (fun k => by rw [salvorref16_Begin.j1]) ?_
  refine Ev.bind (refbegin_ev h1 c r b) ?_
  exact Ev.bind (reftold_ev ho (map_mk h1 (by omega) (by omega) h4)) (Ev.now _)
theorem refBegin_no {c r : Int} {b : Bool} {p q s : Int} {l : List S33} (hlen : l.length ≤ 1000000) (h : optsD c r = false ∨ mapD p q s l = false) :
    Ev (fun k => salvorref16_Begin.f k c r b p q s l) (p, q, s, l) := by
  have hj : Ev (fun k => salvorref16_Begin.j0 k true c r b p q s l) (p, q, s, l) := Ev.step (f := fun _ => _) (fun k => by rw [salvorref16_Begin.j0, if_pos rfl]) (Ev.now _)
  unfold salvorref16_Begin.f
  simp only [refcopy_eq p q s hlen, refopts_eq, Option.bind_some]
  cases ho : optsD c r with
  | false => simp only [Bool.false_eq_true, if_false]; exact hj
  | true =>
    simp only [if_true]
    have h2 := refmap_ev p q s l (by omega)
    rw [show mapD p q s l = false by simp_all] at h2
    exact Ev.bind h2 hj
theorem starts_eq (n : Int) : ∃ m : Int × Int × Int × List S33, plan_Start.f n = some m ∧ salvorref16_Start.f n = some m ∧ m.2.2.2.length ≤ 1 := by
  unfold plan_Start.f salvorref16_Start.f region_New.f salvorref16_NewRegions.f
  by_cases c1 : n < 1
  · simp only [c1, if_true, Option.bind_some]
    exact ⟨_, rfl, rfl, by decide⟩
  · simp only [c1, if_false]
    by_cases c2 : n > 1099511627776
    · simp only [c2, if_true, Option.bind_some]
      exact ⟨_, rfl, rfl, by decide⟩
    · simp only [c2, if_false, Option.bind_some]
      exact ⟨_, rfl, rfl, by simp⟩
theorem PlanNext : ∀ (x0 : S23) (x1 : S26) (x2 : Int), WF23 x0 → WF26 x1 → (Lit.int .i64 x2).wf = true → ∃ k, salvorlaw18_PlanNext.f k x0.f0 x0.f1 x0.f2 x1.f0 x1.f1 x1.f2 x1.f3 x2 = some true := by
  intro o m n _ _ _
  obtain ⟨c, r, b⟩ := o
  obtain ⟨p, q, s, l⟩ := m
  show ∃ k, salvorlaw18_PlanNext.f k c r b p q s l n = some true
  refine Ev.rounds ?_
  have hruns : Ev (fun k => (salvorlaw18_PlanRuns.f k).bind fun t => some t) true := Ev.bind (Ev.of salvorlaw18_PlanRuns.mono PlanRuns.choose_spec) (Ev.now _)
  unfold salvorlaw18_PlanNext.f
  simp only [salvorlaw16_Few.f, opts_eq, refopts_eq, Option.bind_some, decide_eq_true_eq, BEq.rfl, if_true]
  refine ev_ite (fun hfew => ?_) (fun _ => hruns)
  obtain ⟨st, s1, s2, s3⟩ := starts_eq n
  rw [s1, s2]
  simp only [Option.bind_some]
  -- both plans answer the same
  have hN : ∃ v : Int × Int × Int, Ev (fun k => plan_Next.f k c r b p q s l) v ∧ Ev (fun k => salvorref16_Next.f k c r b p q s l) v := by
    by_cases h : optsD c r = true ∧ mapD p q s l = true
    · exact ⟨_, Next_ev h.1 h.2, by unfold salvorref16_Next.f; exact Ev.bind (refnext_ev h.1 h.2) (Ev.now _)⟩
    · have h' : optsD c r = false ∨ mapD p q s l = false := by
        cases h1 : optsD c r with
        | false => exact .inl rfl
        | true =>
          cases h2 : mapD p q s l with
          | false => exact .inr rfl
          | true => exact absurd ⟨h1, h2⟩ h
      exact ⟨_, Next_no (by omega) h', by unfold salvorref16_Next.f; exact Ev.bind (refnext_no (by omega) h') (Ev.now _)⟩
  have hB : ∃ v : Int × Int × Int × List S33, Ev (fun k => plan_Begin.f k c r b p q s l) v ∧ Ev (fun k => salvorref16_Begin.f k c r b p q s l) v ∧ v.2.2.2.length ≤ 1000000 := by
    by_cases h : optsD c r = true ∧ mapD p q s l = true
    · exact ⟨_, Begin_ev (by omega) h.1 h.2, refBegin_ev (by omega) h.1 h.2, by show l.length ≤ 1000000; omega⟩
    · have h' : optsD c r = false ∨ mapD p q s l = false := by
        cases h1 : optsD c r with
        | false => exact .inl rfl
        | true =>
          cases h2 : mapD p q s l with
          | false => exact .inr rfl
          | true => exact absurd ⟨h1, h2⟩ h
      exact ⟨_, Begin_no (by omega) h', refBegin_no (by omega) h', by show l.length ≤ 1000000; omega⟩
  obtain ⟨v, n1, n2⟩ := hN
  obtain ⟨u, b1, b2, b3⟩ := hB
  refine Ev.bind n1 (Ev.bind n2 ?_)
  simp only [BEq.rfl, Bool.and_self, if_true]
  refine Ev.bind (samemap_self _ _ _ _ (by omega)) ?_
  simp only [if_true]
  refine Ev.bind b1 (Ev.bind b2 ?_)
  refine Ev.bind (samemap_self _ _ _ _ (by omega)) ?_
  simp only [if_true]
  exact hruns
end Go.Proofs.Ytnoilinjlelpaaa.Pure
