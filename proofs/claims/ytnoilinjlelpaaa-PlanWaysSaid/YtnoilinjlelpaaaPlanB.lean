/- What is done next, of a map that may be and options that may be. No conditions beyond those that the lemmas name. -/
import Derived.Test.YtnoilinjlelpaaaPx0
import Derived.Test.YtnoilinjlelpaaaPx10
import Derived.Test.YtnoilinjlelpaaaPx11
import Derived.Test.YtnoilinjlelpaaaPlanA
namespace Go.Proofs.Ytnoilinjlelpaaa.Reg
open Go.RowKit Go.Proofs.YtnoilinjlelpaaaW.PrintWords Go.Proofs.YtnoilinjlelpaaaW.PrintLast Go.Proofs.YtnoilinjlelpaaaW.PrintMore Go.Proofs.Ytnoilinjlelpaaa.P

def retryD (r : Int) (b : Bool) (p q : Int) (l : List S33) : Int × Int × Int × Bool :=
  if q ≥ r then (0, 0, 0, false)
  else if (seekD b l 45 p).2.2.2 = true then (4, (cutD b (seekD b l 45 p).1 (seekD b l 45 p).2.1 0).1, (cutD b (seekD b l 45 p).1 (seekD b l 45 p).2.1 0).2, false)
  else if q + 1 < r then (if (seekD b l 45 (edgeD b l)).2.2.2 = true then (4, (cutD b (seekD b l 45 (edgeD b l)).1 (seekD b l 45 (edgeD b l)).2.1 0).1, (cutD b (seekD b l 45 (edgeD b l)).1 (seekD b l 45 (edgeD b l)).2.1 0).2, true) else (0, 0, 0, false))
  else (0, 0, 0, false)
theorem edge_range {l : List S33} (hl : mayL 0 none l = true) (b : Bool) : 0 ≤ edgeD b l ∧ edgeD b l ≤ endOf 0 l ∧ endOf 0 l ≤ 1099511627776 := by
  have hlen := mayL_end hl (by omega)
  unfold edgeD
  split <;> omega
theorem retry_ev {l : List S33} (hl : mayL 0 none l = true) (c r : Int) (b : Bool) (p q s : Int) (_hr : 0 ≤ r ∧ r ≤ 20) (hp : 0 ≤ p ∧ p ≤ 1099511627776) (hq : 0 ≤ q ∧ q ≤ 20) :
    Ev (fun k => plan_retry.f k c r b p q s l) (retryD r b p q l) := by
  have he := edge_range hl b
  have hw : wrap64 (q + 1) = q + 1 := wrap_in (by omega) (by omega)
  have hj3 : ∀ (fr : Bool) (x y z : Int), 0 ≤ x → 0 < y → x + y ≤ 1099511627776 → Ev (fun k => plan_retry.j3 k fr c r b x y z) (4, (cutD b x y 0).1, (cutD b x y 0).2, fr) := by
    intro fr x y z h1 h2 h3
    refine Ev.step (f := fun _ => _) (fun k => by rw [plan_retry.j3, cut_eq c r b x y z 0 h1 h2 h3 (by omega) (by omega)]; rfl) (Ev.now _)
  have hj2n : ∀ (fr : Bool) (x y z : Int), Ev (fun k => plan_retry.j2 k fr false c r b x y z) (0, 0, 0, false) := by
    intro fr x y z
    exact Ev.step (f := fun _ => _) (fun k => by rw [plan_retry.j2, if_neg (by decide)]) (Ev.now _)
  have hj2y : ∀ (fr : Bool) (x y z : Int), 0 ≤ x → 0 < y → x + y ≤ 1099511627776 → Ev (fun k => plan_retry.j2 k fr true c r b x y z) (4, (cutD b x y 0).1, (cutD b x y 0).2, fr) := by
    intro fr x y z h1 h2 h3
    exact Ev.step (f := fun k => plan_retry.j3 k fr c r b x y z) (fun k => by rw [plan_retry.j2, if_pos rfl]) (hj3 fr x y z h1 h2 h3)
  unfold plan_retry.f retryD
  refine ev_ite (fun h => ?_) (fun h => ?_)
  · rw [if_pos h]; exact Ev.now _
  · rw [if_neg h]
    refine Ev.step (f := fun k => _) (fun k => by rw [plan_retry.j0]) ?_
    refine Ev.bind (seek_ev hl c r b p q s 45 p (by omega)) ?_
    rcases seek_st hl b 45 p (by omega) with ⟨x, y, e1, e2, e3, e4, -⟩ | ⟨e1, -⟩
    · rw [e1]
      simp only [if_true]
      exact Ev.step (f := fun k => plan_retry.j2 k false true c r b x y 45) (fun k => by rw [plan_retry.j1, if_neg (by decide)]) (hj2y false x y 45 e2 e3 e4)
    · rw [e1]
      simp only [Bool.false_eq_true, if_false]
      rw [hw]
      by_cases c1 : q + 1 < r
      · rw [if_pos c1, decide_eq_true c1]
        refine Ev.step (f := fun k => _) (fun k => by rw [plan_retry.j1, if_pos rfl]) ?_
        refine Ev.bind (edge_ev hl c r b p q s) ?_
        refine Ev.bind (seek_ev hl c r b p q s 45 (edgeD b l) (by omega)) ?_
        rcases seek_st hl b 45 (edgeD b l) (by omega) with ⟨x, y, e1, e2, e3, e4, -⟩ | ⟨e1, -⟩
        · rw [e1]
          simp only [if_true]
          exact hj2y true x y 45 e2 e3 e4
        · rw [e1]
          simp only [Bool.false_eq_true, if_false]
          exact hj2n false 0 0 0
      · rw [if_neg c1, decide_eq_false c1]
        exact Ev.step (f := fun k => plan_retry.j2 k false false c r b 0 0 0) (fun k => by rw [plan_retry.j1, if_neg (by decide)]) (hj2n false 0 0 0)

def hitD (b : Bool) (l : List S33) (kind st more : Int) (rest : Int × Int × Int × Bool) : Int × Int × Int × Bool :=
  if (seekD b l st (edgeD b l)).2.2.2 = true then (kind, (cutD b (seekD b l st (edgeD b l)).1 (seekD b l st (edgeD b l)).2.1 more).1, (cutD b (seekD b l st (edgeD b l)).1 (seekD b l st (edgeD b l)).2.1 more).2, false) else rest
def nextD (c r : Int) (b : Bool) (p q : Int) (l : List S33) : Int × Int × Int × Bool :=
  hitD b l 1 63 (c - 1) (hitD b l 2 42 0 (hitD b l 3 47 0 (retryD r b p q l)))
theorem next_ev {l : List S33} (hl : mayL 0 none l = true) (c r : Int) (b : Bool) (p q s : Int) (hc : 1 ≤ c ∧ c ≤ 512) (hr : 0 ≤ r ∧ r ≤ 20) (hp : 0 ≤ p ∧ p ≤ 1099511627776) (hq : 0 ≤ q ∧ q ≤ 20) :
    Ev (fun k => plan_next.f k c r b p q s l) (nextD c r b p q l) := by
  have he := edge_range hl b
  have hw : wrap64 (c - 1) = c - 1 := wrap_in (by omega) (by omega)
  unfold plan_next.f
  simp only [Option.bind_some, hw]
  have hstep : ∀ (ys : List S75) (i : Int) (kind st more : Int) (R : Int × Int × Int × Bool), ys.length = 3 → 0 ≤ i → i < 3 → (rd_T75 ys i).f0 = kind → (rd_T75 ys i).f1 = st → (rd_T75 ys i).f2 = more → 0 ≤ more → more ≤ 1000000 →
      Ev (fun k => plan_next.l0 k ys 3 (i + 1) c r b p q s l) R → Ev (fun k => plan_next.l0 k ys 3 i c r b p q s l) (hitD b l kind st more R) := by
    intro ys i kind st more R hy h0 h1 g0 g1 g2 m0 m1 hR
    have hwi : wrap64 (i + 1) = i + 1 := wrap_in (by omega) (by omega)
    refine Ev.step (f := fun k => plan_next.j1 k ys 3 i c r b p q s l) (fun k => by rw [plan_next.l0, if_pos h1]) ?_
    refine Ev.step (f := fun k => _) (fun k => by rw [plan_next.j1, if_pos h0, if_pos (by rw [hy]; exact h1)]) ?_
    refine Ev.bind (edge_ev hl c r b p q s) ?_
    rw [g0, g1, g2, hwi]
    refine Ev.bind (seek_ev hl c r b p q s st (edgeD b l) (by omega)) ?_
    unfold hitD
    rcases seek_st hl b st (edgeD b l) (by omega) with ⟨x, y, e1, e2, e3, e4, -⟩ | ⟨e1, -⟩
    · rw [e1]
      simp only [if_true]
      rw [cut_eq c r b x y st more e2 e3 e4 m0 m1]
      exact Ev.now _
    · rw [e1]
      simp only [Bool.false_eq_true, if_false]
      exact hR
  show Ev (fun k => plan_next.l0 k [⟨1, 63, c - 1⟩, ⟨2, 42, 0⟩, ⟨3, 47, 0⟩] 3 0 c r b p q s l) _
  unfold nextD
  refine hstep _ 0 1 63 (c - 1) _ rfl (by omega) (by omega) rfl rfl rfl (by omega) (by omega) ?_
  refine hstep _ 1 2 42 0 _ rfl (by omega) (by omega) rfl rfl rfl (by omega) (by omega) ?_
  refine hstep _ 2 3 47 0 _ rfl (by omega) (by omega) rfl rfl rfl (by omega) (by omega) ?_
  refine Ev.step (f := fun k => plan_next.j2 k c r b p q s l) (fun k => by rw [plan_next.l0, if_neg (by omega)]) ?_
  refine Ev.step (f := fun k => _) (fun k => by rw [plan_next.j2]) ?_
  exact Ev.bind (retry_ev hl c r b p q s hr hp hq) (Ev.now _)
end Go.Proofs.Ytnoilinjlelpaaa.Reg
