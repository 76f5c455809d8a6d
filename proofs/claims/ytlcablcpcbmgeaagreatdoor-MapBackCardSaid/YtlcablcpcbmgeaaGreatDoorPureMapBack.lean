/- The pure statement of MapBack: a map that may be is read as it was written. No conditions. -/
import Derived.Test.YtlcablcpcbmgeaaGreatDoorPx0
import Derived.Test.YtlcablcpcbmgeaaGreatDoorPx22
import Derived.Test.YtlcablcpcbmgeaaGreatDoorPx23
import Derived.Test.YtlcablcpcbmgeaaGreatDoorPx38
import Derived.Test.YtlcablcpcbmgeaaGreatDoorMapT
import Derived.Test.YtlcablcpcbmgeaaGreatDoorMapS
import Derived.Test.YtlcablcpcbmgeaaGreatDoorPureMapRuns
import Derived.Test.YtlcablcpcbmgeaaGreatDoorOpen
-- names: salvorlaw17_MapBack.f salvorlaw16_Few.f salvorref16_SameMap.f
namespace Go.Proofs.YtlcablcpcbmgeaaGreatDoor.Pure
open Go.RowKit Go.Proofs.YtlcablcpcbmgeaaGreatDoorW.PrintWords Go.Proofs.YtlcablcpcbmgeaaGreatDoorW.PrintLast Go.Proofs.YtlcablcpcbmgeaaGreatDoorW.PrintMore Go.Proofs.YtlcablcpcbmgeaaGreatDoor.P Go.Proofs.YtlcablcpcbmgeaaGreatDoor.Open Go.Proofs.YtlcablcpcbmgeaaGreatDoor.PureM Go.Proofs.YtlcablcpcbmgeaaGreatDoor.Reg
theorem runsB_ev : Ev (fun k => salvorlaw17_MapRuns.f k) true := by
  obtain ⟨k, h⟩ := MapRuns
  exact Ev.of salvorlaw17_MapRuns.mono h
theorem sameB_ev (a b c : Int) (l : List S23) (hl : l.length ≤ 4611686018427387904) : Ev (fun k => salvorref16_SameMap.f k a b c l a b c l) true := by
  unfold salvorref16_SameMap.f
  simp only [if_true]
  exact Ev.bind (same_self l hl) (Ev.now _)
theorem row_le (r : S23) (h : 0 ≤ r.f0 ∧ r.f0 ≤ 1099511627776 ∧ 1 ≤ r.f1 ∧ r.f1 ≤ 1099511627776 ∧ isS r.f2 = true) : (rowT r).size ≤ 300 := by
  have h1 := hex_len r.f0 h.1 h.2.1
  have h2 := hex_len r.f1 (by omega) h.2.2.2.1
  unfold rowT
  simp only [ByteArray.size_append, sp_size, nl_size, st_size]; omega
theorem rows_le : ∀ (l : List S23) (acc : ByteArray), (∀ r ∈ l, 0 ≤ r.f0 ∧ r.f0 ≤ 1099511627776 ∧ 1 ≤ r.f1 ∧ r.f1 ≤ 1099511627776 ∧ isS r.f2 = true) → (rowsT acc l).size ≤ acc.size + 300 * l.length
  | [], acc, _ => by simp [rowsT]
  | r :: l, acc, h => by
    have h1 := row_le r (h r (List.mem_cons_self ..))
    have h2 := rows_le l (acc ++ rowT r) (fun x hx => h x (List.mem_cons_of_mem _ hx))
    rw [ByteArray.size_append] at h2
    show (rowsT (acc ++ rowT r) l).size ≤ _
    rw [List.length_cons]; omega
theorem MapBack : ∀ (x0 : S26), WF26 x0 → ∃ k, salvorlaw17_MapBack.f k x0.f0 x0.f1 x0.f2 x0.f3 = some true := by
  intro x _
  obtain ⟨pos, pass, st, l⟩ := x
  show ∃ k, salvorlaw17_MapBack.f k pos pass st l = some true
  refine Ev.rounds ?_
  have hruns : Ev (fun k => (salvorlaw17_MapRuns.f k).bind fun t => some t) true := Ev.bind runsB_ev (Ev.now _)
  have hj : Ev (fun k => salvorlaw17_MapBack.j0 k true pos pass st l) true := Ev.step (fun k => by rw [salvorlaw17_MapBack.j0, if_pos rfl]) hruns
  unfold salvorlaw17_MapBack.f salvorlaw16_Few.f
  simp only [Option.bind_some]
  by_cases hf : (l.length : Int) ≤ 80
  · simp only [hf, decide_true, if_true]
    refine Ev.bind (mayMap_ev pos pass st l (by omega)) ?_
    cases hm : mayMap pos pass st l with
    | false => exact hj
    | true =>
      refine Ev.step (fun k => by rw [salvorlaw17_MapBack.j0, if_neg (by simp)]) ?_
      have hm' := hm
      simp only [mayMap, Bool.and_eq_true, decide_eq_true_eq] at hm'
      obtain ⟨m0, m1, m2, m3, m4, m5⟩ := hm'
      have he := (mayL_end m0 (by omega)).2
      have hall := mayL_all l 0 none m0 (by omega) (by omega)
      have hh : (headT pos pass st).size ≤ 300 := by
        have h1 := hex_len pos m1 (by omega)
        have h2 := dec_lenA pass m3 (by omega)
        unfold headT
        simp only [ByteArray.size_append, sp_size, nl_size, st_size, show (⟨#[35, 32, 115, 97, 108, 118, 111, 114, 10]⟩ : ByteArray).size = 9 from rfl]; omega
      have hsz := rows_le l (headT pos pass st) hall
      have hs : (rowsT (headT pos pass st) l).size ≤ 40000 := by omega
      have hT : mapT pos pass st l = rowsT (headT pos pass st) l := by unfold mapT; rw [if_pos hm, if_neg (by omega)]
      have hmono := rows_mono l (headT pos pass st)
      have hpos : 0 < (mapT pos pass st l).size := by
        rw [hT]
        have : 9 ≤ (headT pos pass st).size := by
          unfold headT
          simp only [ByteArray.size_append, show (⟨#[35, 32, 115, 97, 108, 118, 111, 114, 10]⟩ : ByteArray).size = 9 from rfl]; omega
        omega
      have hp := print_ev pos pass st l (by omega)
      have hpa := parse_ev (mapT pos pass st l) (by rw [hT]; exact hs)
      rw [back_eq hm hs] at hpa
      have hne : ¬ (mapT pos pass st l).toList = ([] : List UInt8) := by
        intro e
        rw [Lib.toList_data] at e
        have := congrArg List.length e
        rw [PureN.data_len] at this
        simp only [List.length_nil] at this; omega
      refine Ev.bind hp (Ev.bind hpa ?_)
      simp only [if_neg hne, if_true]
      refine Ev.bind (sameB_ev pos pass st l (by omega)) ?_
      simp only [if_true]
      refine Ev.bind hp ?_
      simp only [if_true]
      exact hruns
  · simp only [hf, decide_false, Bool.false_eq_true, if_false]
    exact hj
end Go.Proofs.YtlcablcpcbmgeaaGreatDoor.Pure
