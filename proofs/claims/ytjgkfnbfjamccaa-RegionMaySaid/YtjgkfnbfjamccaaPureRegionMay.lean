/- The pure statement of RegionMay: for any regions, size and place the program's and the reference's answers are the same. No conditions. -/
import Derived.Test.YtjgkfnbfjamccaaPx0
import Derived.Test.YtjgkfnbfjamccaaPx8
import Derived.Test.YtjgkfnbfjamccaaPx16
import Derived.Test.YtjgkfnbfjamccaaPx17
import Derived.Test.YtjgkfnbfjamccaaPx34
import Derived.Test.YtjgkfnbfjamccaaPx35
import Derived.Test.YtjgkfnbfjamccaaOpen
import Derived.Test.YtjgkfnbfjamccaaRegE
import Derived.Test.YtjgkfnbfjamccaaPureRegionRuns
namespace Go.Proofs.Ytjgkfnbfjamccaa.Pure
open Go.RowKit Go.Proofs.YtjgkfnbfjamccaaW.PrintWords Go.Proofs.YtjgkfnbfjamccaaW.PrintLast Go.Proofs.YtjgkfnbfjamccaaW.PrintMore Go.Proofs.Ytjgkfnbfjamccaa.P Go.Proofs.Ytjgkfnbfjamccaa.Open Go.Proofs.Ytjgkfnbfjamccaa.Reg

theorem runs_ev : Ev (fun k => salvorlaw16_RegionRuns.f k) true := by
  obtain ⟨k, h⟩ := RegionRuns
  exact Ev.of salvorlaw16_RegionRuns.mono h

theorem RegionMay : ∀ (x0 : List S26) (x1 : Int) (x2 : Int), (∀ x_ ∈ x0, WF26 x_) → (Lit.int .i64 x1).wf = true → (Lit.int .i64 x2).wf = true → ∃ k, salvorlaw16_RegionMay.f k x0 x1 x2 = some true := by
  intro l size pos _ _ _
  refine Ev.rounds ?_
  have hruns : Ev (fun k => (salvorlaw16_RegionRuns.f k).bind fun t => some t) true := Ev.bind runs_ev (Ev.now _)
  unfold salvorlaw16_RegionMay.f salvorlaw16_Few.f
  simp only [Option.bind_some]
  by_cases hf : (l.length : Int) ≤ 80
  · simp only [hf, decide_true, if_true]
    refine Ev.bind (at_ev l (by omega) pos) (Ev.bind (atref_ev l (by omega) pos) (Ev.bind (may l (by omega)) (Ev.bind (mayref l (by omega)) ?_)))
    simp only [beq_self_eq_true, if_true]
    refine Ev.bind (end_ev l (by omega)) (Ev.bind (endref_ev l (by omega)) ?_)
    simp only [if_true]
    have hnew : ∃ n : List S26, n.length ≤ 1 ∧ region_New.f size = some n ∧ salvorref16_NewRegions.f size = some n := by
      unfold region_New.f salvorref16_NewRegions.f
      by_cases c1 : size < 1
      · rw [if_pos c1]; exact ⟨[], by simp, rfl, rfl⟩
      · rw [if_neg c1]
        by_cases c2 : size > 1099511627776
        · rw [if_pos c2]; exact ⟨[], by simp, rfl, rfl⟩
        · rw [if_neg c2]; exact ⟨_, by simp, rfl, rfl⟩
    obtain ⟨n, hn, h1, h2⟩ := hnew
    simp only [h1, h2, Option.bind_some]
    refine Ev.bind (same_self n (by omega)) ?_
    simp only [beq_self_eq_true, Bool.and_self, if_true]
    exact hruns
  · simp only [hf, decide_false, Bool.false_eq_true, if_false]
    exact hruns

end Go.Proofs.Ytjgkfnbfjamccaa.Pure
