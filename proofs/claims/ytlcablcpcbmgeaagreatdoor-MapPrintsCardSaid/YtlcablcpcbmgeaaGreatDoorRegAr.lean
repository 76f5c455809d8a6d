/- The reference's May and end are the program's. No conditions beyond those that the lemmas name. -/
import Derived.Test.YtlcablcpcbmgeaaGreatDoorPx0
import Derived.Test.YtlcablcpcbmgeaaGreatDoorPx4
import Derived.Test.YtlcablcpcbmgeaaGreatDoorPx23
import Derived.Test.YtlcablcpcbmgeaaGreatDoorPx24
import Derived.Test.YtlcablcpcbmgeaaGreatDoorPx25
import Derived.Test.YtlcablcpcbmgeaaGreatDoorRegA
-- names: region_end.f salvorref16_End.f salvorref16_MayRegions.f salvorref16_status.f
namespace Go.Proofs.YtlcablcpcbmgeaaGreatDoor.Reg
open Go.RowKit Go.Proofs.YtlcablcpcbmgeaaGreatDoorW.PrintWords Go.Proofs.YtlcablcpcbmgeaaGreatDoorW.PrintLast Go.Proofs.YtlcablcpcbmgeaaGreatDoorW.PrintMore Go.Proofs.YtlcablcpcbmgeaaGreatDoor.P

theorem status_eq (c : Int) : salvorref16_status.f c = some (isS c) := by
  unfold salvorref16_status.f isS
  by_cases h1 : c = 63 <;> by_cases h2 : c = 42 <;> by_cases h3 : c = 47 <;> by_cases h4 : c = 45 <;> by_cases h5 : c = 43 <;> simp_all

theorem mayref_ev (l : List S23) (hl : l.length ≤ 4611686018427387904) : ∀ (t : List S23) (i : Nat) (e : Int), l.drop i = t → 0 ≤ e → e ≤ 1099511627776 →
    Ev (fun k => salvorref16_MayRegions.l0 k l e (i : Int)) (mayL e (prev l i) t) := by
  intro t
  induction t with
  | nil =>
    intro i e h h0 h1
    have hge := drop_nil_ge h
    refine Ev.step (f := fun _ => some true) (fun k => ?_) (Ev.now _)
    simp only [salvorref16_MayRegions.l0]
    rw [if_neg (by omega)]
  | cons r t ih =>
    intro i e h h0 h1
    have hlt := drop_lt h
    have hr := rd_at l i r t h
    have hn := drop_succ h
    have key : ∀ k, salvorref16_MayRegions.l0 (k + 1) l e (i : Int) =
        salvorref16_MayRegions.j1 k l e (i : Int) (!(decide (r.f0 = e) && decide (1 ≤ r.f1) && decide (r.f1 ≤ 1099511627776 - e) && isS r.f2 && decide (prev l i ≠ some r.f2))) := by
      intro k
      simp only [salvorref16_MayRegions.l0]
      rw [if_pos (by omega), if_pos (by omega), hr]
      by_cases c1 : r.f0 = e
      · rw [if_pos c1]
        by_cases c2 : r.f1 < 1
        · rw [if_pos c2]; simp [c1, show ¬ 1 ≤ r.f1 from by omega]
        · rw [if_neg c2, wrap_in (x := 1099511627776 - e) (by omega) (by omega)]
          by_cases c3 : r.f1 > 1099511627776 - e
          · rw [if_pos c3]; simp [c1, show ¬ r.f1 ≤ 1099511627776 - e from by omega]
          · rw [if_neg c3, status_eq, wrap_in (x := (i : Int) - 1) (by omega) (by omega)]
            simp only [Option.bind_some]
            cases hs : isS r.f2 with
            | false => simp [c1]
            | true =>
              simp only [if_true]
              by_cases c4 : (i : Int) > 0
              · rw [if_pos c4, if_pos (by omega), if_pos (by omega)]
                have hi : i ≠ 0 := by omega
                simp only [prev, hi, if_false]
                by_cases c5 : (rd_T23 l ((i : Int) - 1)).f2 = r.f2
                · simp [c5]
                · rw [beq_eq_false_iff_ne.mpr c5]
                  simp [c1, c5, show 1 ≤ r.f1 from by omega, show r.f1 ≤ 1099511627776 - e from by omega]
              · rw [if_neg c4]
                have hi : i = 0 := by omega
                simp [prev, hi, c1, show 1 ≤ r.f1 from by omega, show r.f1 ≤ 1099511627776 - e from by omega]
      · rw [if_neg c1]; simp [c1]
    by_cases hc : (decide (r.f0 = e) && decide (1 ≤ r.f1) && decide (r.f1 ≤ 1099511627776 - e) && isS r.f2 && decide (prev l i ≠ some r.f2)) = true
    · have hb : 1 ≤ r.f1 ∧ r.f1 ≤ 1099511627776 - e := by simp only [Bool.and_eq_true, decide_eq_true_eq] at hc; omega
      have ih' := ih (i + 1) (e + r.f1) hn (by omega) (by omega)
      have hpv : prev l (i + 1) = some r.f2 := by simp [prev, hr]
      rw [hpv] at ih'
      rw [mayL, hc, Bool.true_and]
      refine Ev.step (f := fun k => salvorref16_MayRegions.j1 k l e (i : Int) false) (fun k => by rw [key k, hc]; rfl) ?_
      refine Ev.step (f := fun k => salvorref16_MayRegions.l0 k l (e + r.f1) ((i : Int) + 1)) (fun k => ?_) ?_
      · simp only [salvorref16_MayRegions.j1, Bool.false_eq_true, if_false]
        rw [if_pos (by omega), if_pos (by omega), hr, wrap_in (x := e + r.f1) (by omega) (by omega), wrap_in (x := (i : Int) + 1) (by omega) (by omega)]
      · have e1 : (((i + 1 : Nat) : Int)) = (i : Int) + 1 := by omega
        rw [e1] at ih'
        exact ih'
    · rw [mayL, Bool.eq_false_iff.mpr hc, Bool.false_and]
      refine Ev.step (f := fun k => salvorref16_MayRegions.j1 k l e (i : Int) true) (fun k => by rw [key k, Bool.eq_false_iff.mpr hc]; rfl) ?_
      exact Ev.step (f := fun _ => some false) (fun k => by simp [salvorref16_MayRegions.j1]) (Ev.now _)

theorem mayref (l : List S23) (hl : l.length ≤ 4611686018427387904) : Ev (fun k => salvorref16_MayRegions.f k l) (mayL 0 none l) := by
  have := mayref_ev l hl l 0 0 rfl (by omega) (by omega)
  simpa [prev, salvorref16_MayRegions.f] using this
theorem endref_ev (l : List S23) (hl : l.length ≤ 4611686018427387904) : Ev (fun k => salvorref16_End.f k l) (if mayL 0 none l = true then endOf 0 l else 0) := by
  unfold salvorref16_End.f
  refine Ev.bind (mayref l hl) ?_
  cases hm : mayL 0 none l with
  | false => exact Ev.now _
  | true =>
    have he := end_may hm
    unfold region_end.f at he
    simp only [if_true, he]
    exact Ev.now _
end Go.Proofs.YtlcablcpcbmgeaaGreatDoor.Reg
