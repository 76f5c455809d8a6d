/- The pure statement of RegionSides: for any regions, status and place the program's and the reference's first and last regions are the same. No conditions. -/
import Derived.Test.YtjgkfnbfjamccaaPx0
import Derived.Test.YtjgkfnbfjamccaaPx16
import Derived.Test.YtjgkfnbfjamccaaPx17
import Derived.Test.YtjgkfnbfjamccaaPx28
import Derived.Test.YtjgkfnbfjamccaaOpen
import Derived.Test.YtjgkfnbfjamccaaRegG
import Derived.Test.YtjgkfnbfjamccaaPureRegionRuns
namespace Go.Proofs.Ytjgkfnbfjamccaa.Pure
open Go.RowKit Go.Proofs.YtjgkfnbfjamccaaW.PrintWords Go.Proofs.YtjgkfnbfjamccaaW.PrintLast Go.Proofs.YtjgkfnbfjamccaaW.PrintMore Go.Proofs.Ytjgkfnbfjamccaa.P Go.Proofs.Ytjgkfnbfjamccaa.Open Go.Proofs.Ytjgkfnbfjamccaa.Reg

theorem RegionSides : ∀ (x0 : List S26) (x1 : Int) (x2 : Int), (∀ x_ ∈ x0, WF26 x_) → (Lit.int .u8 x1).wf = true → (Lit.int .i64 x2).wf = true → ∃ k, salvorlaw16_RegionSides.f k x0 x1 x2 = some true := by
  intro l st x _ _ hx
  have hx1 : -9223372036854775808 ≤ x ∧ x ≤ 9223372036854775807 := i64_range hx
  refine Ev.rounds ?_
  have hruns : Ev (fun k => (salvorlaw16_RegionRuns.f k).bind fun t => some t) true := Ev.bind (Ev.of salvorlaw16_RegionRuns.mono RegionRuns.choose_spec) (Ev.now _)
  unfold salvorlaw16_RegionSides.f salvorlaw16_Few.f
  simp only [Option.bind_some]
  by_cases hf : (l.length : Int) ≤ 80
  · simp only [hf, decide_true, if_true]
    refine Ev.bind (first_ev l (by omega) st x hx1.1) (Ev.bind (firstref_ev l (by omega) st x hx1.1) (Ev.bind (last_ev l (by omega) st x) (Ev.bind (lastref_ev l (by omega) st x hx1.2) ?_)))
    simp only [beq_self_eq_true, Bool.and_self, if_true]
    exact hruns
  · simp only [hf, decide_false, Bool.false_eq_true, if_false]
    exact hruns

end Go.Proofs.Ytjgkfnbfjamccaa.Pure
