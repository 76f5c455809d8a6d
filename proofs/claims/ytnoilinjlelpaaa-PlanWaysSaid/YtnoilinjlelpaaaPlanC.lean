/- What a plan answers of any map and any options: which may be, what is done next, how a run begins. No conditions beyond those that the lemmas name. -/
import Derived.Test.YtnoilinjlelpaaaPx0
import Derived.Test.YtnoilinjlelpaaaPx3
import Derived.Test.YtnoilinjlelpaaaPx6
import Derived.Test.YtnoilinjlelpaaaPx11
import Derived.Test.YtnoilinjlelpaaaPx12
import Derived.Test.YtnoilinjlelpaaaPx13
import Derived.Test.YtnoilinjlelpaaaPx14
import Derived.Test.YtnoilinjlelpaaaPx17
import Derived.Test.YtnoilinjlelpaaaPx40
import Derived.Test.YtnoilinjlelpaaaPx49
import Derived.Test.YtnoilinjlelpaaaPlanB
namespace Go.Proofs.Ytnoilinjlelpaaa.Reg
open Go.RowKit Go.Proofs.YtnoilinjlelpaaaW.PrintWords Go.Proofs.YtnoilinjlelpaaaW.PrintLast Go.Proofs.YtnoilinjlelpaaaW.PrintMore Go.Proofs.Ytnoilinjlelpaaa.P

def optsD (c r : Int) : Bool := decide (1 ≤ c ∧ c ≤ 512 ∧ 0 ≤ r ∧ r ≤ 20)
theorem opts_eq (c r : Int) (b : Bool) : plan_May.f c r b = some (optsD c r) := by
  unfold plan_May.f optsD
  by_cases h1 : c ≥ 1
  · rw [if_pos h1]
    by_cases h2 : c ≤ 512
    · rw [if_pos h2]
      by_cases h3 : r ≥ 0
      · rw [if_pos h3]; congr 1; rw [decide_eq_decide]; constructor <;> omega
      · rw [if_neg h3, decide_eq_false (by omega)]
    · rw [if_neg h2, decide_eq_false (by omega)]
  · rw [if_neg h1, decide_eq_false (by omega)]
def mapD (p q s : Int) (l : List S33) : Bool := mayL 0 none l && decide (0 ≤ p ∧ p ≤ endOf 0 l ∧ 0 ≤ q ∧ q ≤ 20) && isS s
theorem mapmay_ev (p q s : Int) (l : List S33) (hlen : l.length ≤ 4611686018427387904) : Ev (fun k => maptext_May.f k p q s l) (mapD p q s l) := by
  unfold maptext_May.f mapD
  refine Ev.bind (may l hlen) ?_
  cases hl : mayL 0 none l with
  | false => simp only [Bool.false_eq_true, if_false, Bool.false_and]; exact Ev.now _
  | true =>
    have he := end_ev l hlen
    rw [if_pos hl] at he
    simp only [if_true, Bool.true_and]
    refine ev_ite (fun h1 => ?_) (fun h1 => by rw [decide_eq_false (by omega), Bool.false_and]; exact Ev.now _)
    refine Ev.bind he ?_
    refine ev_ite (fun h2 => ?_) (fun h2 => by rw [decide_eq_false (by omega), Bool.false_and]; exact Ev.now _)
    refine ev_ite (fun h3 => ?_) (fun h3 => by rw [decide_eq_false (by omega), Bool.false_and]; exact Ev.now _)
    refine ev_ite (fun h4 => ?_) (fun h4 => by rw [decide_eq_false (by omega), Bool.false_and]; exact Ev.now _)
    rw [decide_eq_true (by omega), Bool.true_and, is_eq]
    exact Ev.now _
theorem mapD_spec {p q s : Int} {l : List S33} (h : mapD p q s l = true) : mayL 0 none l = true ∧ (0 ≤ p ∧ p ≤ endOf 0 l) ∧ (0 ≤ q ∧ q ≤ 20) ∧ isS s = true := by
  unfold mapD at h
  simp only [Bool.and_eq_true, decide_eq_true_eq] at h
  exact ⟨h.1.1, ⟨h.1.2.1, h.1.2.2.1⟩, ⟨h.1.2.2.2.1, h.1.2.2.2.2⟩, h.2⟩
theorem optsD_spec {c r : Int} (h : optsD c r = true) : (1 ≤ c ∧ c ≤ 512) ∧ (0 ≤ r ∧ r ≤ 20) := by
  unfold optsD at h
  simp only [decide_eq_true_eq] at h
  omega
theorem nextS_ev {c r : Int} {b : Bool} {p q s : Int} {l : List S33} (ho : optsD c r = true) (hm : mapD p q s l = true) : Ev (fun k => plan_next.f k c r b p q s l) (nextD c r b p q l) := by
  obtain ⟨h1, h2, h3, h4⟩ := mapD_spec hm
  obtain ⟨h5, h6⟩ := optsD_spec ho
  have := mayL_end h1 (by omega)
  exact next_ev h1 c r b p q s h5 h6 (by omega) h3
theorem Next_ev {c r : Int} {b : Bool} {p q s : Int} {l : List S33} (ho : optsD c r = true) (hm : mapD p q s l = true) :
    Ev (fun k => plan_Next.f k c r b p q s l) ((nextD c r b p q l).1, (nextD c r b p q l).2.1, (nextD c r b p q l).2.2.1) := by
  have hlen := mayL_end (mapD_spec hm).1 (by omega)
  unfold plan_Next.f
  simp only [opts_eq, ho, Option.bind_some, if_true]
  have h := mapmay_ev p q s l (by omega)
  rw [hm] at h
  refine Ev.bind h ?_
  simp only [if_true]
  exact Ev.bind (nextS_ev ho hm) (Ev.now _)
def statD (kind : Int) : Int := if kind = 1 then 63 else if kind = 2 then 42 else if kind = 3 then 47 else if kind = 4 then 45 else 43
theorem statD_is (kind : Int) : isS (statD kind) = true := by
  unfold statD
  repeat' split
  all_goals rfl
theorem status_ev {c r : Int} {b : Bool} {p q s : Int} {l : List S33} (ho : optsD c r = true) (hm : mapD p q s l = true) :
    Ev (fun k => plan_status.f k c r b p q s l) (statD (nextD c r b p q l).1) := by
  unfold plan_status.f
  refine Ev.bind (nextS_ev ho hm) ?_
  unfold statD
  repeat' refine ev_ite (fun h => ?_) (fun h => ?_)
  all_goals simp only [*, if_true, if_false]
  all_goals exact Ev.now _
theorem statusOf_eq (kind : Int) : salvorref16_StatusOf.f kind = some (statD kind) := by
  unfold salvorref16_StatusOf.f statD
  repeat' split
  all_goals rfl
theorem copied_eq (p q s : Int) {l : List S33} (hlen : l.length ≤ 1000000) : plan_copied.f p q s l = some (p, q, s, l) := by
  unfold plan_copied.f api_Region_54.f
  simp only [Option.bind_some, List.length_nil, List.nil_append]
  rw [if_pos (by omega)]
  rfl
theorem map_mk {p q s : Int} {l : List S33} (h1 : mayL 0 none l = true) (h2 : 0 ≤ p ∧ p ≤ endOf 0 l) (h3 : 0 ≤ q ∧ q ≤ 20) (h4 : isS s = true) : mapD p q s l = true := by
  unfold mapD
  rw [h1, h4, decide_eq_true (by omega)]
  rfl
theorem Begin_ev {c r : Int} {b : Bool} {p q s : Int} {l : List S33} (hlen : l.length ≤ 1000000) (ho : optsD c r = true) (hm : mapD p q s l = true) :
    Ev (fun k => plan_Begin.f k c r b p q s l) (edgeD b l, 0, statD (nextD c r b (edgeD b l) 0 l).1, l) := by
  obtain ⟨h1, h2, h3, h4⟩ := mapD_spec hm
  have he := edge_range h1 b
  unfold plan_Begin.f
  simp only [copied_eq p q s hlen, opts_eq, ho, Option.bind_some, if_true]
  have h := mapmay_ev p q s l (by omega)
  rw [hm] at h
  refine Ev.bind h ?_
  refine Ev.step (f := fun k => _) (fun k => by rw [plan_Begin.j0, if_neg (by decide)]) ?_
  refine Ev.bind (edge_ev h1 c r b p q s) ?_
  exact Ev.bind (status_ev ho (map_mk h1 (by omega) (by omega) h4)) (Ev.now _)
theorem Begin_no {c r : Int} {b : Bool} {p q s : Int} {l : List S33} (hlen : l.length ≤ 1000000) (h : optsD c r = false ∨ mapD p q s l = false) :
    Ev (fun k => plan_Begin.f k c r b p q s l) (p, q, s, l) := by
  have hj : Ev (fun k => plan_Begin.j0 k true c r b p q s l) (p, q, s, l) := Ev.step (f := fun _ => _) (fun k => by rw [plan_Begin.j0, if_pos rfl]) (Ev.now _)
  unfold plan_Begin.f
  simp only [copied_eq p q s hlen, opts_eq, Option.bind_some]
  cases ho : optsD c r with
  | false => simp only [Bool.false_eq_true, if_false]; exact hj
  | true =>
    simp only [if_true]
    have h2 := mapmay_ev p q s l (by omega)
    rw [show mapD p q s l = false by simp_all] at h2
    exact Ev.bind h2 hj
end Go.Proofs.Ytnoilinjlelpaaa.Reg
