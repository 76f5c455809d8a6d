/- What the reference's plan answers: it is the program's. No conditions beyond those that the lemmas name. -/
import Derived.Test.YtnoilinjlelpaaaPx0
import Derived.Test.YtnoilinjlelpaaaPx20
import Derived.Test.YtnoilinjlelpaaaPx24
import Derived.Test.YtnoilinjlelpaaaPx25
import Derived.Test.YtnoilinjlelpaaaPx28
import Derived.Test.YtnoilinjlelpaaaPx29
import Derived.Test.YtnoilinjlelpaaaRegG
import Derived.Test.YtnoilinjlelpaaaPlanC
namespace Go.Proofs.Ytnoilinjlelpaaa.Reg
set_option linter.unusedSimpArgs false
set_option linter.unusedVariables false
open Go.RowKit Go.Proofs.YtnoilinjlelpaaaW.PrintWords Go.Proofs.YtnoilinjlelpaaaW.PrintLast Go.Proofs.YtnoilinjlelpaaaW.PrintMore Go.Proofs.Ytnoilinjlelpaaa.P

theorem refopts_eq (c r : Int) (b : Bool) : salvorref16_MayOpts.f c r b = some (optsD c r) := by
  unfold salvorref16_MayOpts.f optsD
  by_cases h1 : c ≥ 1
  · rw [if_pos h1]
    by_cases h2 : c ≤ 512
    · rw [if_pos h2]
      by_cases h3 : r ≥ 0
      · rw [if_pos h3]; congr 1; rw [decide_eq_decide]; constructor <;> omega
      · rw [if_neg h3, decide_eq_false (by omega)]
    · rw [if_neg h2, decide_eq_false (by omega)]
  · rw [if_neg h1, decide_eq_false (by omega)]
theorem refmap_ev (p q s : Int) (l : List S33) (hlen : l.length ≤ 4611686018427387904) : Ev (fun k => salvorref16_MayMap.f k p q s l) (mapD p q s l) := by
  unfold salvorref16_MayMap.f mapD
  refine Ev.bind (mayref l hlen) ?_
  cases hl : mayL 0 none l with
  | false => simp only [Bool.false_eq_true, if_false, Bool.false_and]; exact Ev.now _
  | true =>
    have he := endref_ev l hlen
    rw [if_pos hl] at he
    simp only [if_true, Bool.true_and]
    refine ev_ite (fun h1 => ?_) (fun h1 => by rw [decide_eq_false (by omega), Bool.false_and]; exact Ev.now _)
    refine Ev.bind he ?_
    refine ev_ite (fun h2 => ?_) (fun h2 => by rw [decide_eq_false (by omega), Bool.false_and]; exact Ev.now _)
    refine ev_ite (fun h3 => ?_) (fun h3 => by rw [decide_eq_false (by omega), Bool.false_and]; exact Ev.now _)
    refine ev_ite (fun h4 => ?_) (fun h4 => by rw [decide_eq_false (by omega), Bool.false_and]; exact Ev.now _)
    rw [decide_eq_true (by omega), Bool.true_and, status_eq]
    exact Ev.now _
theorem refbegin_ev {l : List S33} (hl : mayL 0 none l = true) (c r : Int) (b : Bool) : Ev (fun k => salvorref16_begin.f k c r b l) (edgeD b l) := by
  have hlen := mayL_end hl (by omega)
  have he := endref_ev l (by omega)
  rw [if_pos hl] at he
  unfold salvorref16_begin.f edgeD
  refine ev_ite (fun h => ?_) (fun h => ?_)
  · rw [if_pos h]; exact Ev.bind he (Ev.now _)
  · rw [if_neg h]; exact Ev.now _
theorem refside_ev {l : List S33} (hl : mayL 0 none l = true) (c r : Int) (b : Bool) (st x : Int) (hx : -9223372036854775808 ≤ x) (hx2 : x ≤ 9223372036854775807) : Ev (fun k => salvorref16_side.f k c r b l st x) (seekD b l st x) := by
  have hlen := mayL_end hl (by omega)
  have hf := firstref_ev l (by omega) st x hx
  have hg := lastref_ev l (by omega) st x hx2
  rw [if_pos hl] at hf hg
  unfold salvorref16_side.f seekD
  refine ev_ite (fun h => ?_) (fun h => ?_)
  · rw [if_pos h]; exact Ev.bind hg (Ev.now _)
  · rw [if_neg h]; exact Ev.bind hf (Ev.now _)
theorem refpart_eq (c r : Int) (b : Bool) (p n s more kind : Int) (hp : 0 ≤ p) (hn : 0 < n) (hpn : p + n ≤ 1099511627776) (hm : 0 ≤ more) (hm2 : more ≤ 1000000) : salvorref16_part.f c r b p n s (more + 1) kind = some (kind, cutD b p n more) := by
  unfold salvorref16_part.f cutD
  have h1 : wrap64 (p + n) = p + n := wrap_in (by omega) (by omega)
  have h2 : wrap64 (p + n - 1) = p + n - 1 := wrap_in (by omega) (by omega)
  have h3 : Int.tmod (p + n - 1) 8 = (p + n - 1) % 8 := Int.tmod_eq_emod_of_nonneg (by omega)
  have h4 : Int.tmod p 8 = p % 8 := Int.tmod_eq_emod_of_nonneg (by omega)
  have h5 : wrap64 (p + n - 1 - (p + n - 1) % 8) = (p + n - 1) / 8 * 8 := by rw [wrap_in (by omega) (by omega)]; omega
  have h6 : wrap64 (more + 1 - 1) = more := by rw [wrap_in (by omega) (by omega)]; omega
  have h7 : wrap64 (more * 8) = more * 8 := wrap_in (by omega) (by omega)
  have h8 : wrap64 ((p + n - 1) / 8 * 8 - more * 8) = (p + n - 1) / 8 * 8 - more * 8 := wrap_in (by omega) (by omega)
  have h9 : wrap64 (p + n - 1 + 1) = p + n := by rw [wrap_in (by omega) (by omega)]; omega
  have h10 : wrap64 (p - p % 8) = p - p % 8 := wrap_in (by omega) (by omega)
  have h11 : wrap64 ((more + 1) * 8) = (more + 1) * 8 := wrap_in (by omega) (by omega)
  have h12 : wrap64 (p - p % 8 + (more + 1) * 8) = p - p % 8 + (more + 1) * 8 := wrap_in (by omega) (by omega)
  have hmx := mx_ge p ((p + n - 1) / 8 * 8 - more * 8)
  by_cases h : b = true
  · rw [if_pos h, if_pos h, h1, h2, h3, h5, h6, h7, h8, h9, wrap_in (x := p + n - mx p ((p + n - 1) / 8 * 8 - more * 8)) (by omega) (by omega)]
  · rw [if_neg h, if_neg h, h1, h4, h10, h11, h12]
    have e : wrap64 (mn (p + n) (p - p % 8 + (more + 1) * 8) - p) = mn n ((p / 8 + 1 + more) * 8 - p) := by
      unfold mn
      split <;> split <;> (rw [wrap_in (by omega) (by omega)]; omega)
    rw [e]
/-- The reference's next act. -/
theorem refnext_ev {c r : Int} {b : Bool} {p q s : Int} {l : List S33} (ho : optsD c r = true) (hm : mapD p q s l = true) : Ev (fun k => salvorref16_next.f k c r b p q s l) (nextD c r b p q l) := by
  obtain ⟨hl, hp, hq, h4⟩ := mapD_spec hm
  obtain ⟨hc, hr⟩ := optsD_spec ho
  have hend := mayL_end hl (by omega)
  have he := edge_range hl b
  have hw : wrap64 (q + 1) = q + 1 := wrap_in (by omega) (by omega)
  have hM := refmap_ev p q s l (by omega)
  rw [hm] at hM
  have hB := refbegin_ev hl c r b
  unfold salvorref16_next.f
  rw [refopts_eq, ho]
  simp only [Option.bind_some, if_true]
  refine Ev.bind hM ?_
  refine Ev.step (f := fun k => _) (fun k => by rw [salvorref16_next.j0, if_neg (by decide)]) ?_
  have hj7 : ∀ (x y z : Int), 0 ≤ x → 0 < y → x + y ≤ 1099511627776 → Ev (fun k => salvorref16_next.j7 k true c r b x y z) (4, (cutD b x y 0).1, (cutD b x y 0).2, true) := by
    intro x y z h1 h2 h3
    refine Ev.step (f := fun k => _) (fun k => by rw [salvorref16_next.j7, if_pos rfl, show (1 : Int) = 0 + 1 from rfl, refpart_eq c r b x y z 0 4 h1 h2 h3 (by omega) (by omega)]) ?_
    exact Ev.now _
  have hj7n : ∀ (x y z : Int), Ev (fun k => salvorref16_next.j7 k false c r b x y z) (0, 0, 0, false) := by
    intro x y z
    exact Ev.step (f := fun k => _) (fun k => by rw [salvorref16_next.j7, if_neg (by decide)]) (Ev.now _)
  have hj4 : Ev (fun k => salvorref16_next.j4 k c r b p q s l) (retryD r b p q l) := by
    unfold retryD
    refine Ev.step (f := fun k => _) (fun k => by rw [salvorref16_next.j4]) ?_
    refine ev_ite (fun h => by rw [if_pos h]; exact Ev.now _) (fun h => ?_)
    rw [if_neg h]
    refine Ev.step (f := fun k => _) (fun k => by rw [salvorref16_next.j5]) ?_
    refine Ev.bind (refside_ev hl c r b 45 p (by omega) (by omega)) ?_
    rcases seek_st hl b 45 p (by omega) with ⟨x, y, e1, e2, e3, e4, -⟩ | ⟨e1, -⟩
    · rw [e1]
      simp only [if_true]
      rw [show (1 : Int) = 0 + 1 from rfl, refpart_eq c r b x y 45 0 4 e2 e3 e4 (by omega) (by omega)]
      exact Ev.now _
    · rw [e1]
      simp only [Bool.false_eq_true, if_false]
      refine Ev.step (f := fun k => _) (fun k => by rw [salvorref16_next.j6]) ?_
      refine Ev.bind hB ?_
      refine Ev.bind (refside_ev hl c r b 45 (edgeD b l) (by omega) (by omega)) ?_
      rw [hw]
      rcases seek_st hl b 45 (edgeD b l) (by omega) with ⟨x, y, e1, e2, e3, e4, -⟩ | ⟨e1, -⟩
      · rw [e1]
        simp only [if_true]
        by_cases c1 : q + 1 < r
        · rw [if_pos c1, decide_eq_true c1]; exact hj7 x y 45 e2 e3 e4
        · rw [if_neg c1, decide_eq_false c1]; exact hj7n x y 45
      · rw [e1]
        simp only [Bool.false_eq_true, if_false, ite_self]
        exact hj7n 0 0 0
  have hhit : ∀ (kind st more : Int) (g : Nat → Option (Int × Int × Int × Bool)) (R : Int × Int × Int × Bool), 0 ≤ more → more ≤ 1000000 → Ev g R →
      Ev (fun k => (salvorref16_begin.f k c r b l).bind fun t => (salvorref16_side.f k c r b l st t).bind fun bt => if bt.2.2.2 = true then (salvorref16_part.f c r b bt.1 bt.2.1 bt.2.2.1 (more + 1) kind).bind fun bu => some (bu.1, bu.2.1, bu.2.2, false) else g k) (hitD b l kind st more R) := by
    intro kind st more g R m0 m1 hR
    refine Ev.bind hB ?_
    refine Ev.bind (refside_ev hl c r b st (edgeD b l) (by omega) (by omega)) ?_
    unfold hitD
    rcases seek_st hl b st (edgeD b l) (by omega) with ⟨x, y, e1, e2, e3, e4, -⟩ | ⟨e1, -⟩
    · rw [e1]
      simp only [if_true]
      rw [refpart_eq c r b x y st more kind e2 e3 e4 m0 m1]
      exact Ev.now _
    · rw [e1]
      simp only [Bool.false_eq_true, if_false]
      exact hR
  unfold nextD
  have hc1 : c = c - 1 + 1 := by omega
  refine Ev.step (f := fun k => _) (fun k => by rw [salvorref16_next.j1]) ?_
  have h3 := hhit 3 47 0 (fun k => salvorref16_next.j4 k c r b p q s l) _ (by omega) (by omega) hj4
  have h3' : Ev (fun k => salvorref16_next.j3 k c r b p q s l) (hitD b l 3 47 0 (retryD r b p q l)) := Ev.step (f := fun k => _) (fun k => by rw [salvorref16_next.j3]; rfl) h3
  have h2 := hhit 2 42 0 (fun k => salvorref16_next.j3 k c r b p q s l) _ (by omega) (by omega) h3'
  have h2' : Ev (fun k => salvorref16_next.j2 k c r b p q s l) (hitD b l 2 42 0 (hitD b l 3 47 0 (retryD r b p q l))) := Ev.step (f := fun k => _) (fun k => by rw [salvorref16_next.j2]; rfl) h2
  have h1 := hhit 1 63 (c - 1) (fun k => salvorref16_next.j2 k c r b p q s l) _ (by omega) (by omega) h2'
  rw [← hc1] at h1
  exact h1
theorem refnext_no {c r : Int} {b : Bool} {p q s : Int} {l : List S33} (hlen : l.length ≤ 1000000) (h : optsD c r = false ∨ mapD p q s l = false) : Ev (fun k => salvorref16_next.f k c r b p q s l) (0, 0, 0, false) := by
  have hj : Ev (fun k => salvorref16_next.j0 k true c r b p q s l) (0, 0, 0, false) := Ev.step (f := fun _ => _) (fun k => by rw [salvorref16_next.j0, if_pos rfl]) (Ev.now _)
  unfold salvorref16_next.f
  rw [refopts_eq]
  cases ho : optsD c r with
  | false => simp only [Option.bind_some, Bool.false_eq_true, if_false]; exact hj
  | true =>
    simp only [Option.bind_some, if_true]
    have h2 := refmap_ev p q s l (by omega)
    rw [show mapD p q s l = false by simp_all] at h2
    exact Ev.bind h2 hj
end Go.Proofs.Ytnoilinjlelpaaa.Reg
