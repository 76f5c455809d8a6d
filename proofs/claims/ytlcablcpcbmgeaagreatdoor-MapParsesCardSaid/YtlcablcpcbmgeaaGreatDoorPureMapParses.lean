/- The pure statement of MapParses: of any text the map that it is, or that it is none. No conditions. -/
import Derived.Test.YtlcablcpcbmgeaaGreatDoorPx0
import Derived.Test.YtlcablcpcbmgeaaGreatDoorPx23
import Derived.Test.YtlcablcpcbmgeaaGreatDoorPx36
import Derived.Test.YtlcablcpcbmgeaaGreatDoorMapM2
-- names: salvorlaw17_MapParses.f
namespace Go.Proofs.YtlcablcpcbmgeaaGreatDoor.Pure
open Go.RowKit Go.Proofs.YtlcablcpcbmgeaaGreatDoorW.PrintWords Go.Proofs.YtlcablcpcbmgeaaGreatDoorW.PrintLast Go.Proofs.YtlcablcpcbmgeaaGreatDoorW.PrintMore Go.Proofs.YtlcablcpcbmgeaaGreatDoor.P Go.Proofs.YtlcablcpcbmgeaaGreatDoor.PureM
theorem MapParses : ∀ (x0 : ByteArray), x0.size ≤ maxLen → ∃ k, salvorlaw17_MapParses.f k x0 = some true := by
  intro s _
  refine Ev.rounds ?_
  have hruns : Ev (fun k => (salvorlaw17_MapRuns.f k).bind fun t => some t) true := Ev.bind runsM_ev (Ev.now _)
  unfold salvorlaw17_MapParses.f
  by_cases hb : (s.size : Int) > 1500
  · simp only [if_pos hb]; exact hruns
  · simp only [if_neg hb]
    have hlen := linesW_len s
    refine Ev.bind (parse_ev s (by omega)) (Ev.bind (refparse_ev s (by omega)) ?_)
    rcases resL_cases (linesW s.data.toList) with e | ⟨pos, pass, st, l, e, _, hl⟩
    · rw [e]
      refine Ev.bind (sameM_ev 0 0 0 [] (by decide)) ?_
      simp only [if_true]; exact hruns
    · rw [e]
      refine Ev.bind (sameM_ev pos pass st l (by omega)) ?_
      simp only [if_true]; exact hruns
end Go.Proofs.YtlcablcpcbmgeaaGreatDoor.Pure
