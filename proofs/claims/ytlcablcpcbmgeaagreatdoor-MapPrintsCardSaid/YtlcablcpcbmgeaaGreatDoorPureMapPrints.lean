/- The pure statement of MapPrints: for any map the program's and the reference's answers are the same. No conditions. -/
import Derived.Test.YtlcablcpcbmgeaaGreatDoorPx0
import Derived.Test.YtlcablcpcbmgeaaGreatDoorPx23
import Derived.Test.YtlcablcpcbmgeaaGreatDoorPx29
import Derived.Test.YtlcablcpcbmgeaaGreatDoorOpen
import Derived.Test.YtlcablcpcbmgeaaGreatDoorMapP
import Derived.Test.YtlcablcpcbmgeaaGreatDoorPureMapRuns
-- names: salvorlaw17_MapPrints.f salvorlaw17_MapRuns.f salvorlaw16_Few.f
namespace Go.Proofs.YtlcablcpcbmgeaaGreatDoor.Pure
open Go.RowKit Go.Proofs.YtlcablcpcbmgeaaGreatDoorW.PrintWords Go.Proofs.YtlcablcpcbmgeaaGreatDoorW.PrintLast Go.Proofs.YtlcablcpcbmgeaaGreatDoorW.PrintMore Go.Proofs.YtlcablcpcbmgeaaGreatDoor.P Go.Proofs.YtlcablcpcbmgeaaGreatDoor.Open Go.Proofs.YtlcablcpcbmgeaaGreatDoor.PureM
theorem runs_ev : Ev (fun k => salvorlaw17_MapRuns.f k) true := by
  obtain ⟨k, h⟩ := MapRuns
  exact Ev.of salvorlaw17_MapRuns.mono h
theorem MapPrints : ∀ (x0 : S26), WF26 x0 → ∃ k, salvorlaw17_MapPrints.f k x0.f0 x0.f1 x0.f2 x0.f3 = some true := by
  intro x _
  obtain ⟨pos, pass, st, l⟩ := x
  show ∃ k, salvorlaw17_MapPrints.f k pos pass st l = some true
  refine Ev.rounds ?_
  have hruns : Ev (fun k => (salvorlaw17_MapRuns.f k).bind fun t => some t) true := Ev.bind runs_ev (Ev.now _)
  unfold salvorlaw17_MapPrints.f salvorlaw16_Few.f
  simp only [Option.bind_some]
  by_cases hf : (l.length : Int) ≤ 80
  · simp only [hf, decide_true, if_true]
    refine Ev.bind (mayMap_ev pos pass st l (by omega)) (Ev.bind (refMay_ev pos pass st l (by omega)) ?_)
    simp only [beq_self_eq_true, if_true]
    refine Ev.bind (print_ev pos pass st l (by omega)) (Ev.bind (refprint_ev pos pass st l (by omega)) ?_)
    simp only [if_true]
    exact hruns
  · simp only [hf, decide_false, Bool.false_eq_true, if_false]
    exact hruns
end Go.Proofs.YtlcablcpcbmgeaaGreatDoor.Pure
