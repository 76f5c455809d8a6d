/- The pure statement of MapLines: of any lines the map that they are, or that they are none. No conditions. -/
import Derived.Test.YtlcablcpcbmgeaaGreatDoorPx0
import Derived.Test.YtlcablcpcbmgeaaGreatDoorPx23
import Derived.Test.YtlcablcpcbmgeaaGreatDoorPx37
import Derived.Test.YtlcablcpcbmgeaaGreatDoorMapM2
-- names: salvorlaw17_MapLines.f
namespace Go.Proofs.YtlcablcpcbmgeaaGreatDoor.Pure
open Go.RowKit Go.Proofs.YtlcablcpcbmgeaaGreatDoorW.PrintWords Go.Proofs.YtlcablcpcbmgeaaGreatDoorW.PrintLast Go.Proofs.YtlcablcpcbmgeaaGreatDoorW.PrintMore Go.Proofs.YtlcablcpcbmgeaaGreatDoor.P Go.Proofs.YtlcablcpcbmgeaaGreatDoor.PureM Go.Proofs.YtlcablcpcbmgeaaGreatDoor.Reg
theorem lines_text (s : ByteArray) (hs : s.size ≤ 40000) (i : Int) (ls : List ByteArray) (hi : ¬ i < (ls.length : Int)) : Ev (fun k => salvorlaw17_MapLines.l0 k ls s i) true := by
  have hruns : Ev (fun k => (salvorlaw17_MapRuns.f k).bind fun t => some t) true := Ev.bind runsM_ev (Ev.now _)
  refine Ev.step (fun k => by rw [salvorlaw17_MapLines.l0, if_neg hi]) ?_
  have hlen := linesW_len s
  refine Ev.bind (parse_ev s hs) (Ev.bind (refparse_ev s hs) ?_)
  rcases resL_cases (linesW s.data.toList) with e | ⟨pos, pass, st, l, e, hm, hl⟩
  · rw [e]
    refine Ev.bind (sameM_ev 0 0 0 [] (by decide)) ?_
    simp only [if_true]
    rw [show badR = (0, 0, 0, [], 6) from rfl]
    simp only [if_neg (show ¬ (6 : Int) = 0 by decide)]
    exact hruns
  · rw [e]
    refine Ev.bind (sameM_ev pos pass st l (by omega)) ?_
    simp only [if_true]
    have h := mayMap_ev pos pass st l (by omega)
    rw [hm] at h
    refine Ev.bind h ?_
    simp only [if_true]; exact hruns
theorem lines_loop_ev (ls : List ByteArray) (hl : ls.length ≤ 40) : ∀ (t : List ByteArray) (i : Nat) (s : ByteArray), ls.drop i = t → i ≤ ls.length → s.size ≤ 61 * i → Ev (fun k => salvorlaw17_MapLines.l0 k ls s (i : Int)) true
  | [], i, s, hd, hil, hs => by
    have hi := drop_nil_ge hd
    exact lines_text s (by omega) i ls (by omega)
  | p :: t, i, s, hd, hil, hs => by
    have hi := drop_lt hd
    have hrd := rdOf_at ls i p t hd
    have hruns : Ev (fun k => (salvorlaw17_MapRuns.f k).bind fun t => some t) true := Ev.bind runsM_ev (Ev.now _)
    have hst : ∀ k, salvorlaw17_MapLines.l0 (k + 1) ls s (i : Int) = if (p.size : Int) > 60 then (salvorlaw17_MapRuns.f k).bind fun t => some t else salvorlaw17_MapLines.l0 k ls ((s ++ p) ++ (⟨#[10]⟩ : ByteArray)) ((i + 1 : Nat) : Int) := fun k => by
      have hws : wrap64 ((i : Int) + 1) = ((i + 1 : Nat) : Int) := by unfold wrap64; omega
      rw [salvorlaw17_MapLines.l0, if_pos (by omega), if_pos (by omega), hrd, hws]
      by_cases c : (p.size : Int) > 60
      · rw [if_pos c, if_pos c]
      · rw [if_neg c, if_neg c, if_pos (by omega), if_pos (by rw [ByteArray.size_append]; omega)]
    refine Ev.step hst ?_
    by_cases c : (p.size : Int) > 60
    · simp only [if_pos c]; exact hruns
    · simp only [if_neg c]
      refine lines_loop_ev ls hl t (i + 1) _ (drop_succ hd) (by omega) ?_
      rw [ByteArray.size_append, ByteArray.size_append, show (⟨#[10]⟩ : ByteArray).size = 1 from rfl]; omega
theorem MapLines : ∀ (x0 : List ByteArray), (∀ x_ ∈ x0, x_.size ≤ maxLen) → ∃ k, salvorlaw17_MapLines.f k x0 = some true := by
  intro ls _
  refine Ev.rounds ?_
  have hruns : Ev (fun k => (salvorlaw17_MapRuns.f k).bind fun t => some t) true := Ev.bind runsM_ev (Ev.now _)
  unfold salvorlaw17_MapLines.f
  by_cases hb : (ls.length : Int) > 40
  · simp only [if_pos hb]; exact hruns
  · simp only [if_neg hb]
    exact lines_loop_ev ls (by omega) ls 0 _ rfl (Nat.zero_le _) (by decide)
end Go.Proofs.YtlcablcpcbmgeaaGreatDoor.Pure
