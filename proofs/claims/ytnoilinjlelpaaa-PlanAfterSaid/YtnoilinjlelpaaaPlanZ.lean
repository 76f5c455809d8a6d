/- What the plan's functions answer of a map that may be, in plain words. No conditions beyond those that the lemmas name. What is done next, of a map that may be and options that may be. No conditions beyond those that the lemmas name. What a plan answers of any map and any options: which may be, what is done next, how a run begins. No conditions beyond those that the lemmas name. Counts of places, and which kind of act is next, told by which statuses a map has. No conditions beyond those that the lemmas name. What a map is behind an act. No conditions beyond those that the lemmas name. What a map is behind an act, place by place; counts of places. No conditions beyond those that the lemmas name. What the reference's plan answers: it is the program's. No conditions beyond those that the lemmas name. The reference's copies of maps, their statuses, and that a map is the same as itself. No conditions beyond those that the lemmas name. -/
import Derived.Test.YtnoilinjlelpaaaPx0
import Derived.Test.YtnoilinjlelpaaaPx7
import Derived.Test.YtnoilinjlelpaaaPx8
import Derived.Test.YtnoilinjlelpaaaPx9
import Derived.Test.YtnoilinjlelpaaaRegZ
import Derived.Test.YtnoilinjlelpaaaPx10
import Derived.Test.YtnoilinjlelpaaaPx11
import Derived.Test.YtnoilinjlelpaaaPx3
import Derived.Test.YtnoilinjlelpaaaPx6
import Derived.Test.YtnoilinjlelpaaaPx12
import Derived.Test.YtnoilinjlelpaaaPx13
import Derived.Test.YtnoilinjlelpaaaPx14
import Derived.Test.YtnoilinjlelpaaaPx17
import Derived.Test.YtnoilinjlelpaaaPx40
import Derived.Test.YtnoilinjlelpaaaPx49
import Derived.Test.YtnoilinjlelpaaaPx18
import Derived.Test.YtnoilinjlelpaaaPx20
import Derived.Test.YtnoilinjlelpaaaPx24
import Derived.Test.YtnoilinjlelpaaaPx25
import Derived.Test.YtnoilinjlelpaaaPx28
import Derived.Test.YtnoilinjlelpaaaPx29
import Derived.Test.YtnoilinjlelpaaaPx21
import Derived.Test.YtnoilinjlelpaaaPx33
section
namespace Go.Proofs.Ytnoilinjlelpaaa.Reg
open Go.RowKit Go.Proofs.YtnoilinjlelpaaaW.PrintWords Go.Proofs.YtnoilinjlelpaaaW.PrintLast Go.Proofs.YtnoilinjlelpaaaW.PrintMore Go.Proofs.Ytnoilinjlelpaaa.P

theorem ev_ite {α : Type} {c : Prop} [Decidable c] {f g : Nat → Option α} {v : α} (h1 : c → Ev f v) (h2 : ¬ c → Ev g v) : Ev (fun k => if c then f k else g k) v := by
  by_cases h : c
  · simp only [h, if_true]; exact h1 h
  · simp only [h, if_false]; exact h2 h

def edgeD (b : Bool) (l : List S33) : Int := if b = true then endOf 0 l else 0
def seekD (b : Bool) (l : List S33) (st x : Int) : Int × Int × Int × Bool := if b = true then region_Last.g l st x l.length else firstL st x l
theorem edge_ev {l : List S33} (hl : mayL 0 none l = true) (c r : Int) (b : Bool) (p q s : Int) : Ev (fun k => plan_edge.f k c r b p q s l) (edgeD b l) := by
  have hlen := mayL_end hl (by omega)
  have he := end_ev l (by omega)
  rw [if_pos hl] at he
  unfold plan_edge.f edgeD
  refine ev_ite (fun h => ?_) (fun h => ?_)
  · rw [if_pos h]; exact Ev.bind he (Ev.now _)
  · rw [if_neg h]; exact Ev.now _
theorem seek_ev {l : List S33} (hl : mayL 0 none l = true) (c r : Int) (b : Bool) (p q s st x : Int) (hx : -9223372036854775808 ≤ x) : Ev (fun k => plan_seek.f k c r b p q s l st x) (seekD b l st x) := by
  have hlen := mayL_end hl (by omega)
  have hf := first_ev l (by omega) st x hx
  have hg := last_ev l (by omega) st x
  rw [if_pos hl] at hf hg
  unfold plan_seek.f seekD
  refine ev_ite (fun h => ?_) (fun h => ?_)
  · rw [if_pos h]; exact Ev.bind hg (Ev.now _)
  · rw [if_neg h]; exact Ev.bind hf (Ev.now _)
/-- What a cut is: place and size. -/
def cutD (b : Bool) (p n more : Int) : Int × Int :=
  if b = true then (mx p ((p + n - 1) / 8 * 8 - more * 8), p + n - mx p ((p + n - 1) / 8 * 8 - more * 8)) else (p, mn n ((p / 8 + 1 + more) * 8 - p))
theorem cut_eq (c r : Int) (b : Bool) (p n s more : Int) (hp : 0 ≤ p) (hn : 0 < n) (hpn : p + n ≤ 1099511627776) (hm : 0 ≤ more) (hm2 : more ≤ 1000000) : plan_cut.f c r b p n s more = some (cutD b p n more) := by
  unfold plan_cut.f cutD
  have h1 : wrap64 (p + n) = p + n := wrap_in (by omega) (by omega)
  have h2 : wrap64 (p + n - 1) = p + n - 1 := wrap_in (by omega) (by omega)
  have h3 : Int.tdiv (p + n - 1) 8 = (p + n - 1) / 8 := Int.tdiv_eq_ediv_of_nonneg (by omega)
  have h4 : Int.tdiv p 8 = p / 8 := Int.tdiv_eq_ediv_of_nonneg (by omega)
  have h5 : wrap64 ((p + n - 1) / 8) = (p + n - 1) / 8 := wrap_in (by omega) (by omega)
  have h6 : wrap64 ((p + n - 1) / 8 * 8) = (p + n - 1) / 8 * 8 := wrap_in (by omega) (by omega)
  have h7 : wrap64 (more * 8) = more * 8 := wrap_in (by omega) (by omega)
  have h8 : wrap64 ((p + n - 1) / 8 * 8 - more * 8) = (p + n - 1) / 8 * 8 - more * 8 := wrap_in (by omega) (by omega)
  have h9 : wrap64 (p / 8) = p / 8 := wrap_in (by omega) (by omega)
  have h10 : wrap64 (p / 8 + 1) = p / 8 + 1 := wrap_in (by omega) (by omega)
  have h11 : wrap64 (p / 8 + 1 + more) = p / 8 + 1 + more := wrap_in (by omega) (by omega)
  have h12 : wrap64 ((p / 8 + 1 + more) * 8) = (p / 8 + 1 + more) * 8 := wrap_in (by omega) (by omega)
  have h13 : wrap64 ((p / 8 + 1 + more) * 8 - p) = (p / 8 + 1 + more) * 8 - p := wrap_in (by omega) (by omega)
  have hmx := mx_ge p ((p + n - 1) / 8 * 8 - more * 8)
  by_cases h : b = true
  · rw [if_pos h, if_pos h, h1, h2, h3, h5, h6, h7, h8]
    rw [wrap_in (x := p + n - mx p ((p + n - 1) / 8 * 8 - more * 8)) (by omega) (by omega)]
  · rw [if_neg h, if_neg h, h4, h9, h10, h11, h12, h13]
/-- What is found lies in the map. -/
theorem seek_st {l : List S33} (hl : mayL 0 none l = true) (b : Bool) (st x : Int) (hx : x ≤ 9223372036854775807) :
    (∃ p n, seekD b l st x = (p, n, st, true) ∧ 0 ≤ p ∧ 0 < n ∧ p + n ≤ 1099511627776 ∧ (∀ y, p ≤ y → y < p + n → stAt 0 l y = some st) ∧
      (b = true → p + n ≤ x ∧ ∀ y, y < x → stAt 0 l y = some st → y < p + n) ∧ (b = false → x ≤ p ∧ ∀ y, x ≤ y → stAt 0 l y = some st → p ≤ y)) ∨
    (seekD b l st x = (0, 0, 0, false) ∧ (b = true → ∀ y, y < x → stAt 0 l y ≠ some st) ∧ (b = false → ∀ y, x ≤ y → stAt 0 l y ≠ some st)) := by
  unfold seekD
  by_cases h : b = true
  · rw [if_pos h]
    rcases last_st hl st x hx with ⟨p, n, q1, q2, q3, q4, q5, q6, q7⟩ | ⟨q1, q2⟩
    · exact .inl ⟨p, n, q1, q2, q3, q5, q6, fun _ => ⟨q4, q7⟩, fun h2 => by rw [h] at h2; cases h2⟩
    · exact .inr ⟨q1, fun _ => q2, fun h2 => by rw [h] at h2; cases h2⟩
  · rw [if_neg h]
    rcases firstL_st hl (by omega) st x with ⟨p, n, q1, q2, q3, q4, q5, q6, q7⟩ | ⟨q1, q2⟩
    · exact .inl ⟨p, n, q1, q3, q4, q5, q6, fun h2 => absurd h2 h, fun _ => ⟨q2, q7⟩⟩
    · exact .inr ⟨q1, fun h2 => absurd h2 h, fun _ => q2⟩
end Go.Proofs.Ytnoilinjlelpaaa.Reg
end

section
namespace Go.Proofs.Ytnoilinjlelpaaa.Reg
open Go.RowKit Go.Proofs.YtnoilinjlelpaaaW.PrintWords Go.Proofs.YtnoilinjlelpaaaW.PrintLast Go.Proofs.YtnoilinjlelpaaaW.PrintMore Go.Proofs.Ytnoilinjlelpaaa.P

def retryD (r : Int) (b : Bool) (p q : Int) (l : List S33) : Int × Int × Int × Bool :=
  if q ≥ r then (0, 0, 0, false)
  else if (seekD b l 45 p).2.2.2 = true then (4, (cutD b (seekD b l 45 p).1 (seekD b l 45 p).2.1 0).1, (cutD b (seekD b l 45 p).1 (seekD b l 45 p).2.1 0).2, false)
  else if q + 1 < r then (if (seekD b l 45 (edgeD b l)).2.2.2 = true then (4, (cutD b (seekD b l 45 (edgeD b l)).1 (seekD b l 45 (edgeD b l)).2.1 0).1, (cutD b (seekD b l 45 (edgeD b l)).1 (seekD b l 45 (edgeD b l)).2.1 0).2, true) else (0, 0, 0, false))
  else (0, 0, 0, false)
theorem edge_range {l : List S33} (hl : mayL 0 none l = true) (b : Bool) : 0 ≤ edgeD b l ∧ edgeD b l ≤ endOf 0 l ∧ endOf 0 l ≤ 1099511627776 := by
  have hlen := mayL_end hl (by omega)
  unfold edgeD
  split <;> omega
theorem retry_ev {l : List S33} (hl : mayL 0 none l = true) (c r : Int) (b : Bool) (p q s : Int) (_hr : 0 ≤ r ∧ r ≤ 20) (hp : 0 ≤ p ∧ p ≤ 1099511627776) (hq : 0 ≤ q ∧ q ≤ 20) :
    Ev (fun k => plan_retry.f k c r b p q s l) (retryD r b p q l) := by
  have he := edge_range hl b
  have hw : wrap64 (q + 1) = q + 1 := wrap_in (by omega) (by omega)
  have hj3 : ∀ (fr : Bool) (x y z : Int), 0 ≤ x → 0 < y → x + y ≤ 1099511627776 → Ev (fun k => plan_retry.j3 k fr c r b x y z) (4, (cutD b x y 0).1, (cutD b x y 0).2, fr) := by
    intro fr x y z h1 h2 h3
    refine Ev.step (f := fun _ => _) (fun k => by rw [plan_retry.j3, cut_eq c r b x y z 0 h1 h2 h3 (by omega) (by omega)]; rfl) (Ev.now _)
  have hj2n : ∀ (fr : Bool) (x y z : Int), Ev (fun k => plan_retry.j2 k fr false c r b x y z) (0, 0, 0, false) := by
    intro fr x y z
    exact Ev.step (f := fun _ => _) (fun k => by rw [plan_retry.j2, if_neg (by decide)]) (Ev.now _)
  have hj2y : ∀ (fr : Bool) (x y z : Int), 0 ≤ x → 0 < y → x + y ≤ 1099511627776 → Ev (fun k => plan_retry.j2 k fr true c r b x y z) (4, (cutD b x y 0).1, (cutD b x y 0).2, fr) := by
    intro fr x y z h1 h2 h3
    exact Ev.step (f := fun k => plan_retry.j3 k fr c r b x y z) (fun k => by rw [plan_retry.j2, if_pos rfl]) (hj3 fr x y z h1 h2 h3)
  unfold plan_retry.f retryD
  refine ev_ite (fun h => ?_) (fun h => ?_)
  · rw [if_pos h]; exact Ev.now _
  · rw [if_neg h]
    refine Ev.step (f := fun k => _) (fun k => by rw [plan_retry.j0]) ?_
    refine Ev.bind (seek_ev hl c r b p q s 45 p (by omega)) ?_
    rcases seek_st hl b 45 p (by omega) with ⟨x, y, e1, e2, e3, e4, -⟩ | ⟨e1, -⟩
    · rw [e1]
      simp only [if_true]
      exact Ev.step (f := fun k => plan_retry.j2 k false true c r b x y 45) (fun k => by rw [plan_retry.j1, if_neg (by decide)]) (hj2y false x y 45 e2 e3 e4)
    · rw [e1]
      simp only [Bool.false_eq_true, if_false]
      rw [hw]
      by_cases c1 : q + 1 < r
      · rw [if_pos c1, decide_eq_true c1]
        refine Ev.step (f := fun k => _) (fun k => by rw [plan_retry.j1, if_pos rfl]) ?_
        refine Ev.bind (edge_ev hl c r b p q s) ?_
        refine Ev.bind (seek_ev hl c r b p q s 45 (edgeD b l) (by omega)) ?_
        rcases seek_st hl b 45 (edgeD b l) (by omega) with ⟨x, y, e1, e2, e3, e4, -⟩ | ⟨e1, -⟩
        · rw [e1]
          simp only [if_true]
          exact hj2y true x y 45 e2 e3 e4
        · rw [e1]
          simp only [Bool.false_eq_true, if_false]
          exact hj2n false 0 0 0
      · rw [if_neg c1, decide_eq_false c1]
        exact Ev.step (f := fun k => plan_retry.j2 k false false c r b 0 0 0) (fun k => by rw [plan_retry.j1, if_neg (by decide)]) (hj2n false 0 0 0)

def hitD (b : Bool) (l : List S33) (kind st more : Int) (rest : Int × Int × Int × Bool) : Int × Int × Int × Bool :=
  if (seekD b l st (edgeD b l)).2.2.2 = true then (kind, (cutD b (seekD b l st (edgeD b l)).1 (seekD b l st (edgeD b l)).2.1 more).1, (cutD b (seekD b l st (edgeD b l)).1 (seekD b l st (edgeD b l)).2.1 more).2, false) else rest
def nextD (c r : Int) (b : Bool) (p q : Int) (l : List S33) : Int × Int × Int × Bool :=
  hitD b l 1 63 (c - 1) (hitD b l 2 42 0 (hitD b l 3 47 0 (retryD r b p q l)))
theorem next_ev {l : List S33} (hl : mayL 0 none l = true) (c r : Int) (b : Bool) (p q s : Int) (hc : 1 ≤ c ∧ c ≤ 512) (hr : 0 ≤ r ∧ r ≤ 20) (hp : 0 ≤ p ∧ p ≤ 1099511627776) (hq : 0 ≤ q ∧ q ≤ 20) :
    Ev (fun k => plan_next.f k c r b p q s l) (nextD c r b p q l) := by
  have he := edge_range hl b
  have hw : wrap64 (c - 1) = c - 1 := wrap_in (by omega) (by omega)
  unfold plan_next.f
  simp only [Option.bind_some, hw]
  have hstep : ∀ (ys : List S75) (i : Int) (kind st more : Int) (R : Int × Int × Int × Bool), ys.length = 3 → 0 ≤ i → i < 3 → (rd_T75 ys i).f0 = kind → (rd_T75 ys i).f1 = st → (rd_T75 ys i).f2 = more → 0 ≤ more → more ≤ 1000000 →
      Ev (fun k => plan_next.l0 k ys 3 (i + 1) c r b p q s l) R → Ev (fun k => plan_next.l0 k ys 3 i c r b p q s l) (hitD b l kind st more R) := by
    intro ys i kind st more R hy h0 h1 g0 g1 g2 m0 m1 hR
    have hwi : wrap64 (i + 1) = i + 1 := wrap_in (by omega) (by omega)
    refine Ev.step (f := fun k => plan_next.j1 k ys 3 i c r b p q s l) (fun k => by rw [plan_next.l0, if_pos h1]) ?_
    refine Ev.step (f := fun k => _) (fun k => by rw [plan_next.j1, if_pos h0, if_pos (by rw [hy]; exact h1)]) ?_
    refine Ev.bind (edge_ev hl c r b p q s) ?_
    rw [g0, g1, g2, hwi]
    refine Ev.bind (seek_ev hl c r b p q s st (edgeD b l) (by omega)) ?_
    unfold hitD
    rcases seek_st hl b st (edgeD b l) (by omega) with ⟨x, y, e1, e2, e3, e4, -⟩ | ⟨e1, -⟩
    · rw [e1]
      simp only [if_true]
      rw [cut_eq c r b x y st more e2 e3 e4 m0 m1]
      exact Ev.now _
    · rw [e1]
      simp only [Bool.false_eq_true, if_false]
      exact hR
  show Ev (fun k => plan_next.l0 k [⟨1, 63, c - 1⟩, ⟨2, 42, 0⟩, ⟨3, 47, 0⟩] 3 0 c r b p q s l) _
  unfold nextD
  refine hstep _ 0 1 63 (c - 1) _ rfl (by omega) (by omega) rfl rfl rfl (by omega) (by omega) ?_
  refine hstep _ 1 2 42 0 _ rfl (by omega) (by omega) rfl rfl rfl (by omega) (by omega) ?_
  refine hstep _ 2 3 47 0 _ rfl (by omega) (by omega) rfl rfl rfl (by omega) (by omega) ?_
  refine Ev.step (f := fun k => plan_next.j2 k c r b p q s l) (fun k => by rw [plan_next.l0, if_neg (by omega)]) ?_
  refine Ev.step (f := fun k => _) (fun k => by rw [plan_next.j2]) ?_
  exact Ev.bind (retry_ev hl c r b p q s hr hp hq) (Ev.now _)
end Go.Proofs.Ytnoilinjlelpaaa.Reg
end

section
namespace Go.Proofs.Ytnoilinjlelpaaa.Reg
open Go.RowKit Go.Proofs.YtnoilinjlelpaaaW.PrintWords Go.Proofs.YtnoilinjlelpaaaW.PrintLast Go.Proofs.YtnoilinjlelpaaaW.PrintMore Go.Proofs.Ytnoilinjlelpaaa.P

def optsD (c r : Int) : Bool := decide (1 ≤ c ∧ c ≤ 512 ∧ 0 ≤ r ∧ r ≤ 20)
theorem opts_eq (c r : Int) (b : Bool) : plan_May.f c r b = some (optsD c r) := by
  unfold plan_May.f optsD
  by_cases h1 : c ≥ 1
  · rw [if_pos h1]
    by_cases h2 : c ≤ 512
    · rw [if_pos h2]
      by_cases h3 : r ≥ 0
      · rw [if_pos h3]; congr 1; rw [decide_eq_decide]; constructor <;> omega
      · rw [if_neg h3, decide_eq_false (by omega)]
    · rw [if_neg h2, decide_eq_false (by omega)]
  · rw [if_neg h1, decide_eq_false (by omega)]
def mapD (p q s : Int) (l : List S33) : Bool := mayL 0 none l && decide (0 ≤ p ∧ p ≤ endOf 0 l ∧ 0 ≤ q ∧ q ≤ 20) && isS s
theorem mapmay_ev (p q s : Int) (l : List S33) (hlen : l.length ≤ 4611686018427387904) : Ev (fun k => maptext_May.f k p q s l) (mapD p q s l) := by
  unfold maptext_May.f mapD
  refine Ev.bind (may l hlen) ?_
  cases hl : mayL 0 none l with
  | false => simp only [Bool.false_eq_true, if_false, Bool.false_and]; exact Ev.now _
  | true =>
    have he := end_ev l hlen
    rw [if_pos hl] at he
    simp only [if_true, Bool.true_and]
    refine ev_ite (fun h1 => ?_) (fun h1 => by rw [decide_eq_false (by omega), Bool.false_and]; exact Ev.now _)
    refine Ev.bind he ?_
    refine ev_ite (fun h2 => ?_) (fun h2 => by rw [decide_eq_false (by omega), Bool.false_and]; exact Ev.now _)
    refine ev_ite (fun h3 => ?_) (fun h3 => by rw [decide_eq_false (by omega), Bool.false_and]; exact Ev.now _)
    refine ev_ite (fun h4 => ?_) (fun h4 => by rw [decide_eq_false (by omega), Bool.false_and]; exact Ev.now _)
    rw [decide_eq_true (by omega), Bool.true_and, is_eq]
    exact Ev.now _
theorem mapD_spec {p q s : Int} {l : List S33} (h : mapD p q s l = true) : mayL 0 none l = true ∧ (0 ≤ p ∧ p ≤ endOf 0 l) ∧ (0 ≤ q ∧ q ≤ 20) ∧ isS s = true := by
  unfold mapD at h
  simp only [Bool.and_eq_true, decide_eq_true_eq] at h
  exact ⟨h.1.1, ⟨h.1.2.1, h.1.2.2.1⟩, ⟨h.1.2.2.2.1, h.1.2.2.2.2⟩, h.2⟩
theorem optsD_spec {c r : Int} (h : optsD c r = true) : (1 ≤ c ∧ c ≤ 512) ∧ (0 ≤ r ∧ r ≤ 20) := by
  unfold optsD at h
  simp only [decide_eq_true_eq] at h
  omega
theorem nextS_ev {c r : Int} {b : Bool} {p q s : Int} {l : List S33} (ho : optsD c r = true) (hm : mapD p q s l = true) : Ev (fun k => plan_next.f k c r b p q s l) (nextD c r b p q l) := by
  obtain ⟨h1, h2, h3, h4⟩ := mapD_spec hm
  obtain ⟨h5, h6⟩ := optsD_spec ho
  have := mayL_end h1 (by omega)
  exact next_ev h1 c r b p q s h5 h6 (by omega) h3
theorem Next_ev {c r : Int} {b : Bool} {p q s : Int} {l : List S33} (ho : optsD c r = true) (hm : mapD p q s l = true) :
    Ev (fun k => plan_Next.f k c r b p q s l) ((nextD c r b p q l).1, (nextD c r b p q l).2.1, (nextD c r b p q l).2.2.1) := by
  have hlen := mayL_end (mapD_spec hm).1 (by omega)
  unfold plan_Next.f
  simp only [opts_eq, ho, Option.bind_some, if_true]
  have h := mapmay_ev p q s l (by omega)
  rw [hm] at h
  refine Ev.bind h ?_
  simp only [if_true]
  exact Ev.bind (nextS_ev ho hm) (Ev.now _)
def statD (kind : Int) : Int := if kind = 1 then 63 else if kind = 2 then 42 else if kind = 3 then 47 else if kind = 4 then 45 else 43
theorem statD_is (kind : Int) : isS (statD kind) = true := by
  unfold statD
  repeat' split
  all_goals rfl
theorem status_ev {c r : Int} {b : Bool} {p q s : Int} {l : List S33} (ho : optsD c r = true) (hm : mapD p q s l = true) :
    Ev (fun k => plan_status.f k c r b p q s l) (statD (nextD c r b p q l).1) := by
  unfold plan_status.f
  refine Ev.bind (nextS_ev ho hm) ?_
  unfold statD
  repeat' refine ev_ite (fun h => ?_) (fun h => ?_)
  all_goals simp only [*, if_true, if_false]
  all_goals exact Ev.now _
theorem statusOf_eq (kind : Int) : salvorref16_StatusOf.f kind = some (statD kind) := by
  unfold salvorref16_StatusOf.f statD
  repeat' split
  all_goals rfl
theorem copied_eq (p q s : Int) {l : List S33} (hlen : l.length ≤ 1000000) : plan_copied.f p q s l = some (p, q, s, l) := by
  unfold plan_copied.f api_Region_54.f
  simp only [Option.bind_some, List.length_nil, List.nil_append]
  rw [if_pos (by omega)]
  rfl
theorem map_mk {p q s : Int} {l : List S33} (h1 : mayL 0 none l = true) (h2 : 0 ≤ p ∧ p ≤ endOf 0 l) (h3 : 0 ≤ q ∧ q ≤ 20) (h4 : isS s = true) : mapD p q s l = true := by
  unfold mapD
  rw [h1, h4, decide_eq_true (by omega)]
  rfl
theorem Begin_ev {c r : Int} {b : Bool} {p q s : Int} {l : List S33} (hlen : l.length ≤ 1000000) (ho : optsD c r = true) (hm : mapD p q s l = true) :
    Ev (fun k => plan_Begin.f k c r b p q s l) (edgeD b l, 0, statD (nextD c r b (edgeD b l) 0 l).1, l) := by
  obtain ⟨h1, h2, h3, h4⟩ := mapD_spec hm
  have he := edge_range h1 b
  unfold plan_Begin.f
  simp only [copied_eq p q s hlen, opts_eq, ho, Option.bind_some, if_true]
  have h := mapmay_ev p q s l (by omega)
  rw [hm] at h
  refine Ev.bind h ?_
  refine Ev.step (f := fun k => _) (fun k => by rw [plan_Begin.j0, if_neg (by decide)]) ?_
  refine Ev.bind (edge_ev h1 c r b p q s) ?_
  exact Ev.bind (status_ev ho (map_mk h1 (by omega) (by omega) h4)) (Ev.now _)
theorem Begin_no {c r : Int} {b : Bool} {p q s : Int} {l : List S33} (hlen : l.length ≤ 1000000) (h : optsD c r = false ∨ mapD p q s l = false) :
    Ev (fun k => plan_Begin.f k c r b p q s l) (p, q, s, l) := by
  have hj : Ev (fun k => plan_Begin.j0 k true c r b p q s l) (p, q, s, l) := Ev.step (f := fun _ => _) (fun k => by rw [plan_Begin.j0, if_pos rfl]) (Ev.now _)
  unfold plan_Begin.f
  simp only [copied_eq p q s hlen, opts_eq, Option.bind_some]
  cases ho : optsD c r with
  | false => simp only [Bool.false_eq_true, if_false]; exact hj
  | true =>
    simp only [if_true]
    have h2 := mapmay_ev p q s l (by omega)
    rw [show mapD p q s l = false by simp_all] at h2
    exact Ev.bind h2 hj
end Go.Proofs.Ytnoilinjlelpaaa.Reg
end

section
namespace Go.Proofs.Ytnoilinjlelpaaa.Reg
open Go.RowKit Go.Proofs.YtnoilinjlelpaaaW.PrintWords Go.Proofs.YtnoilinjlelpaaaW.PrintLast Go.Proofs.YtnoilinjlelpaaaW.PrintMore Go.Proofs.Ytnoilinjlelpaaa.P

theorem stAt_first {e : Int} {r : S33} {t : List S33} (h1 : 1 ≤ r.f1) : stAt e (r :: t) e = some r.f2 := by
  simp only [stAt]
  rw [if_neg (by omega), if_pos (by omega)]
theorem stAt_cons {e : Int} {r : S33} {t : List S33} {y s : Int} (h : stAt e (r :: t) y = some s) : s = r.f2 ∨ stAt (e + r.f1) t y = some s := by
  simp only [stAt] at h
  by_cases c : y < e
  · rw [if_pos c] at h; cases h
  · rw [if_neg c] at h
    by_cases d : y < e + r.f1
    · rw [if_pos d] at h; exact .inl (Option.some.inj h).symm
    · rw [if_neg d] at h; exact .inr h
theorem stAt_tail {e : Int} {p : Option Int} {r : S33} {t : List S33} {y s : Int} (hm : mayL e p (r :: t) = true) (_he : e ≤ 1099511627776) (h : stAt (e + r.f1) t y = some s) : stAt e (r :: t) y = some s := by
  obtain ⟨g1, g2, g3, g4, g5, g6⟩ := mayL_cons hm
  have : ¬ y < e + r.f1 := fun c => by
    rw [stAt_out g6 y (.inl c)] at h; cases h
  simp only [stAt]
  rw [if_neg (by omega), if_neg this]
  exact h
theorem cnt_spec (ss : List Int) (hss : ss ≠ []) : ∀ (l : List S33) (e : Int) (p : Option Int) (n : Int), mayL e p l = true → 0 ≤ e → e ≤ 1099511627776 → 0 ≤ n → n ≤ e →
    n ≤ cntL ss n l ∧ cntL ss n l ≤ n + (endOf e l - e) ∧ (n < cntL ss n l ↔ ∃ y s, stAt e l y = some s ∧ ss.contains s = true) ∧ (cntL ss n l = n + (endOf e l - e) ↔ ∀ y s, stAt e l y = some s → ss.contains s = true) := by
  intro l
  induction l with
  | nil =>
    intro e p n _ _ _ _ _
    refine ⟨Int.le_refl _, by simp [cntL, endOf], ⟨fun h => absurd h (by simp [cntL]), fun ⟨y, s, h, _⟩ => by simp [stAt] at h⟩, ⟨fun _ y s h => by simp [stAt] at h, fun _ => by simp [cntL, endOf]⟩⟩
  | cons r t ih =>
    intro e p n hm h0 he hn0 hne
    obtain ⟨g1, g2, g3, g4, g5, g6⟩ := mayL_cons hm
    have hE : endOf e (r :: t) = endOf (e + r.f1) t := rfl
    have hge := mayL_end g6 (by omega)
    rw [hE, cntL]
    cases hc : ss.contains r.f2 with
    | true =>
      rw [if_pos (.inr rfl), wrap_in (x := n + r.f1) (by omega) (by omega)]
      obtain ⟨i1, i2, i3, i4⟩ := ih (e + r.f1) _ (n + r.f1) g6 (by omega) (by omega) (by omega) (by omega)
      refine ⟨by omega, by omega, ⟨fun _ => ⟨e, r.f2, stAt_first g2, hc⟩, fun _ => by omega⟩, ⟨fun h y s hs => ?_, fun h => ?_⟩⟩
      · rcases stAt_cons hs with rfl | h2
        · exact hc
        · exact i4.1 (by omega) y s h2
      · have := i4.2 (fun y s h2 => h y s (stAt_tail hm he h2))
        omega
    | false =>
      rw [if_neg (by simp [hss])]
      obtain ⟨i1, i2, i3, i4⟩ := ih (e + r.f1) _ n g6 (by omega) (by omega) (by omega) (by omega)
      refine ⟨by omega, by omega, ⟨fun h => ?_, fun ⟨y, s, h1, h2⟩ => ?_⟩, ⟨fun h => by omega, fun h => ?_⟩⟩
      · obtain ⟨y, s, h1, h2⟩ := i3.1 h
        exact ⟨y, s, stAt_tail hm he h1, h2⟩
      · rcases stAt_cons h1 with rfl | h3
        · rw [hc] at h2; cases h2
        · exact i3.2 ⟨y, s, h3, h2⟩
      · have := h e r.f2 (stAt_first g2)
        rw [hc] at this; cases this
/-- Does the map have the status? -/
def has (l : List S33) (st : Int) : Prop := ∃ y, stAt 0 l y = some st
theorem cnt_has {l : List S33} (hl : mayL 0 none l = true) (st : Int) : cntL [st] 0 l > 0 ↔ has l st := by
  obtain ⟨_, _, h, _⟩ := cnt_spec [st] (by simp) l 0 none 0 hl (by omega) (by omega) (by omega) (by omega)
  rw [gt_iff_lt, h]
  constructor
  · rintro ⟨y, s, h1, h2⟩
    have : s = st := by simpa using h2
    exact ⟨y, this ▸ h1⟩
  · rintro ⟨y, h1⟩
    exact ⟨y, st, h1, by simp⟩
theorem cnt_all {l : List S33} (hl : mayL 0 none l = true) (ss : List Int) (hss : ss ≠ []) : cntL ss 0 l = endOf 0 l ↔ ∀ s, has l s → ss.contains s = true := by
  obtain ⟨_, _, _, h⟩ := cnt_spec ss hss l 0 none 0 hl (by omega) (by omega) (by omega) (by omega)
  rw [show (0 : Int) + (endOf 0 l - 0) = endOf 0 l by omega] at h
  rw [h]
  exact ⟨fun h s ⟨y, hy⟩ => h y s hy, fun h y s hy => h s ⟨y, hy⟩⟩
theorem has_is {l : List S33} (hl : mayL 0 none l = true) {s : Int} (h : has l s) : isS s = true := by
  obtain ⟨y, hy⟩ := h
  by_cases c : 0 ≤ y ∧ y < endOf 0 l
  · obtain ⟨s', h1, h2⟩ := stAt_in hl y c.1 c.2
    rw [hy] at h1
    cases h1
    exact h2
  · rw [stAt_out hl y (by omega)] at hy; cases hy
theorem has_seek {l : List S33} (hl : mayL 0 none l = true) (b : Bool) (st x : Int) (hx : x ≤ 9223372036854775807) (h : (seekD b l st x).2.2.2 = true) : has l st := by
  rcases seek_st hl b st x hx with ⟨p, n, e1, e2, e3, e4, e5, -⟩ | ⟨e1, -⟩
  · exact ⟨p, e5 p (by omega) (by omega)⟩
  · rw [e1] at h; cases h
theorem seek_has {l : List S33} (hl : mayL 0 none l = true) (b : Bool) (st : Int) : (seekD b l st (edgeD b l)).2.2.2 = true ↔ has l st := by
  have he := edge_range hl b
  refine ⟨has_seek hl b st _ (by omega), fun ⟨y, hy⟩ => ?_⟩
  have hr : 0 ≤ y ∧ y < endOf 0 l := by
    by_cases c : 0 ≤ y ∧ y < endOf 0 l
    · exact c
    · rw [stAt_out hl y (by omega)] at hy; cases hy
  rcases seek_st hl b st (edgeD b l) (by omega) with ⟨p, n, e1, -⟩ | ⟨e1, e2, e3⟩
  · rw [e1]
  · cases b with
    | true => exact absurd hy (e2 rfl y (by simp only [edgeD, if_true]; omega))
    | false => exact absurd hy (e3 rfl y (by simp only [edgeD, Bool.false_eq_true, if_false]; omega))
end Go.Proofs.Ytnoilinjlelpaaa.Reg
end

section
namespace Go.Proofs.Ytnoilinjlelpaaa.Reg
set_option linter.unusedSimpArgs false
set_option linter.unusedVariables false
open Go.RowKit Go.Proofs.YtnoilinjlelpaaaW.PrintWords Go.Proofs.YtnoilinjlelpaaaW.PrintLast Go.Proofs.YtnoilinjlelpaaaW.PrintMore Go.Proofs.Ytnoilinjlelpaaa.P

theorem cut_spec (b : Bool) {p n more : Int} (_hp : 0 ≤ p) (hn : 0 < n) (hm : 0 ≤ more) : p ≤ (cutD b p n more).1 ∧ 1 ≤ (cutD b p n more).2 ∧ (cutD b p n more).1 + (cutD b p n more).2 ≤ p + n ∧ (cutD b p n more).2 ≤ more * 8 + 8 := by
  unfold cutD
  have hmx := mx_ge p ((p + n - 1) / 8 * 8 - more * 8)
  have hmn := mn_le n ((p / 8 + 1 + more) * 8 - p)
  cases b with
  | true => simp only [if_true]; omega
  | false => simp only [Bool.false_eq_true, if_false]; omega
/-- An act: none, or places of one status, in the map. -/
theorem next_spec {l : List S33} (hl : mayL 0 none l = true) (c r : Int) (b : Bool) (p q : Int) (hc : 1 ≤ c ∧ c ≤ 512) (hp : 0 ≤ p ∧ p ≤ endOf 0 l) :
    nextD c r b p q l = (0, 0, 0, false) ∨ ∃ kind x y fr, nextD c r b p q l = (kind, x, y, fr) ∧ 1 ≤ kind ∧ kind ≤ 4 ∧ 0 ≤ x ∧ 1 ≤ y ∧ y ≤ 4096 ∧ x + y ≤ endOf 0 l ∧ (fr = true → kind = 4 ∧ q + 1 < r) ∧ (kind = 4 → q < r) ∧ ∀ z, x ≤ z → z < x + y → stAt 0 l z = some (statD kind) := by
  have he := edge_range hl b
  have inmap : ∀ (x n st : Int), 0 < n → (∀ y, x ≤ y → y < x + n → stAt 0 l y = some st) → x + n ≤ endOf 0 l := by
    intro x n st hn h
    have := h (x + n - 1) (by omega) (by omega)
    by_cases c : x + n - 1 < endOf 0 l
    · omega
    · rw [stAt_out hl (x + n - 1) (by omega)] at this; cases this
  have hhit : ∀ (kd st more : Int) (R : Int × Int × Int × Bool), st = statD kd → 1 ≤ kd → kd ≤ 3 → 0 ≤ more → more ≤ 511 →
      (R = (0, 0, 0, false) ∨ ∃ kind x y fr, R = (kind, x, y, fr) ∧ 1 ≤ kind ∧ kind ≤ 4 ∧ 0 ≤ x ∧ 1 ≤ y ∧ y ≤ 4096 ∧ x + y ≤ endOf 0 l ∧ (fr = true → kind = 4 ∧ q + 1 < r) ∧ (kind = 4 → q < r) ∧ ∀ z, x ≤ z → z < x + y → stAt 0 l z = some (statD kind)) →
      (hitD b l kd st more R = (0, 0, 0, false) ∨ ∃ kind x y fr, hitD b l kd st more R = (kind, x, y, fr) ∧ 1 ≤ kind ∧ kind ≤ 4 ∧ 0 ≤ x ∧ 1 ≤ y ∧ y ≤ 4096 ∧ x + y ≤ endOf 0 l ∧ (fr = true → kind = 4 ∧ q + 1 < r) ∧ (kind = 4 → q < r) ∧ ∀ z, x ≤ z → z < x + y → stAt 0 l z = some (statD kind)) := by
    intro kd st more R hst h1 h3 m0 m1 hR
    unfold hitD
    rcases seek_st hl b st (edgeD b l) (by omega) with ⟨x, n, e1, e2, e3, e4, e5, -⟩ | ⟨e1, -⟩
    · rw [e1, if_pos rfl]
      obtain ⟨u1, u2, u3, u4⟩ := cut_spec b (more := more) e2 e3 m0
      have := inmap x n st e3 e5
      refine .inr ⟨kd, (cutD b x n more).1, (cutD b x n more).2, false, rfl, h1, by omega, by omega, u2, by omega, by omega, fun h => (by cases h), fun h => by omega, fun z h1 h2 => ?_⟩
      rw [← hst]
      exact e5 z (by omega) (by omega)
    · rw [e1, if_neg (by decide)]
      exact hR
  unfold nextD
  refine hhit 1 63 (c - 1) _ rfl (by omega) (by omega) (by omega) (by omega) ?_
  refine hhit 2 42 0 _ rfl (by omega) (by omega) (by omega) (by omega) ?_
  refine hhit 3 47 0 _ rfl (by omega) (by omega) (by omega) (by omega) ?_
  unfold retryD
  by_cases a1 : q ≥ r
  · rw [if_pos a1]; exact .inl rfl
  rw [if_neg a1]
  rcases seek_st hl b 45 p (by omega) with ⟨x, n, e1, e2, e3, e4, e5, -⟩ | ⟨e1, -⟩
  · rw [e1, if_pos rfl]
    obtain ⟨u1, u2, u3, u4⟩ := cut_spec b (more := 0) e2 e3 (by omega)
    have := inmap x n 45 e3 e5
    exact .inr ⟨4, (cutD b x n 0).1, (cutD b x n 0).2, false, rfl, by omega, by omega, by omega, u2, by omega, by omega, fun h => (by cases h), fun _ => by omega, fun z h1 h2 => e5 z (by omega) (by omega)⟩
  · rw [e1, if_neg (by decide)]
    by_cases a2 : q + 1 < r
    · rw [if_pos a2]
      rcases seek_st hl b 45 (edgeD b l) (by omega) with ⟨x, n, e1, e2, e3, e4, e5, -⟩ | ⟨e1, -⟩
      · rw [e1, if_pos rfl]
        obtain ⟨u1, u2, u3, u4⟩ := cut_spec b (more := 0) e2 e3 (by omega)
        have := inmap x n 45 e3 e5
        exact .inr ⟨4, (cutD b x n 0).1, (cutD b x n 0).2, true, rfl, by omega, by omega, by omega, u2, by omega, by omega, fun _ => ⟨rfl, a2⟩, fun _ => by omega, fun z h1 h2 => e5 z (by omega) (by omega)⟩
      · rw [e1, if_neg (by decide)]; exact .inl rfl
    · rw [if_neg a2]; exact .inl rfl

/-- The regions behind an act. -/
def doneD (l : List S33) (kind x y got : Int) : List S33 :=
  if kind = 1 then setM (setM l x got 43) (x + got) (y - got) 42
  else if got = y then setM l x y 43
  else if kind = 2 then setM (setM l (atL x l).1 (atL x l).2.1 47) x y 45
  else setM l x y 45
theorem done_ev {l : List S33} (hl : mayL 0 none l = true) (kind x y got : Int) (hx : 0 ≤ x) (hy : 1 ≤ y) (hxy : x + y ≤ endOf 0 l) (hg : 0 ≤ got ∧ got ≤ y) :
    Ev (fun k => plan_done.f k l kind x y got) (doneD l kind x y got) ∧ mayL 0 none (doneD l kind x y got) = true ∧ endOf 0 (doneD l kind x y got) = endOf 0 l := by
  have hlen := mayL_end hl (by omega)
  have w1 : wrap64 (x + got) = x + got := wrap_in (by omega) (by omega)
  have w2 : wrap64 (y - got) = y - got := wrap_in (by omega) (by omega)
  unfold plan_done.f doneD
  by_cases k1 : kind = 1
  · rw [if_pos k1]
    obtain ⟨a1, a2, a3, a4⟩ := set_may hl (pos := x) (n := got) (st := 43) hx hg.1 rfl
    obtain ⟨b1, b2, b3, b4⟩ := set_may a2 (pos := x + got) (n := y - got) (st := 42) (by omega) (by omega) rfl
    refine ⟨?_, b2, b3.trans a3⟩
    simp only [k1, if_true, w1, w2]
    exact Ev.bind a1 (Ev.bind b1 (Ev.now _))
  · rw [if_neg k1]
    simp only [k1, if_false]
    by_cases g1 : got = y
    · rw [if_pos g1]
      simp only [g1, if_true]
      obtain ⟨a1, a2, a3, a4⟩ := set_may hl (pos := x) (n := y) (st := 43) hx (by omega) rfl
      exact ⟨Ev.bind a1 (Ev.now _), a2, a3⟩
    · rw [if_neg g1]
      simp only [g1, if_false]
      by_cases k2 : kind = 2
      · rw [if_pos k2]
        simp only [k2, if_true]
        obtain ⟨ra, rb, rs, q1, q2, q3, q4⟩ := atL_st hl (by omega) x hx (by omega)
        have hat := at_ev l (by omega) x
        rw [if_pos hl] at hat
        have hra : 0 ≤ ra := by
          have : ∀ (t : List S33) (e : Int) (p : Option Int), mayL e p t = true → 0 ≤ e → e ≤ 1099511627776 → 0 ≤ (atL x t).1 ∧ 0 ≤ (atL x t).2.1 := by
            intro t
            induction t with
            | nil => intro e p _ _ _; exact ⟨Int.le_refl _, Int.le_refl _⟩
            | cons r t ih =>
              intro e p hm h0 h1
              obtain ⟨g1, g2, g3, g4, g5, g6⟩ := mayL_cons hm
              simp only [atL]
              split
              · exact ⟨(by omega : 0 ≤ r.f0), (by omega : 0 ≤ r.f1)⟩
              · exact ih _ _ g6 (by omega) (by omega)
          have := this l 0 none hl (by omega) (by omega)
          rw [q1] at this
          exact this.1
        rw [q1] at hat ⊢
        obtain ⟨a1, a2, a3, a4⟩ := set_may hl (pos := ra) (n := rb) (st := 47) hra (by omega) rfl
        obtain ⟨b1, b2, b3, b4⟩ := set_may a2 (pos := x) (n := y) (st := 45) hx (by omega) rfl
        exact ⟨Ev.bind hat (Ev.bind a1 (Ev.bind b1 (Ev.now _))), b2, b3.trans a3⟩
      · rw [if_neg k2]
        simp only [k2, if_false]
        obtain ⟨a1, a2, a3, a4⟩ := set_may hl (pos := x) (n := y) (st := 45) hx (by omega) rfl
        exact ⟨Ev.bind a1 (Ev.now _), a2, a3⟩
/-- The map behind an act. -/
def afterL (l : List S33) (a : Int × Int × Int × Bool) (got : Int) : List S33 := if a.1 = 0 then l else doneD l a.1 a.2.1 a.2.2.1 (mn (mx got 0) a.2.2.1)
def afterP (b : Bool) (p : Int) (a : Int × Int × Int × Bool) : Int := if a.1 = 4 then (if b = true then a.2.1 else a.2.1 + a.2.2.1) else p
def afterQ (q : Int) (a : Int × Int × Int × Bool) : Int := if a.2.2.2 = true then q + 1 else q
theorem after_ev {c r : Int} {b : Bool} {p q s : Int} {l : List S33} (hlen : l.length ≤ 1000000) (ho : optsD c r = true) (hm : mapD p q s l = true) (got : Int) :
    let a := nextD c r b p q l
    Ev (fun k => plan_After.f k c r b p q s l got) (afterP b p a, afterQ q a, statD (nextD c r b (afterP b p a) (afterQ q a) (afterL l a got)).1, afterL l a got) ∧
    mapD (afterP b p a) (afterQ q a) (statD (nextD c r b (afterP b p a) (afterQ q a) (afterL l a got)).1) (afterL l a got) = true ∧ endOf 0 (afterL l a got) = endOf 0 l := by
  obtain ⟨hl, h2, h3, h4⟩ := mapD_spec hm
  obtain ⟨h5, h6⟩ := optsD_spec ho
  have hend := mayL_end hl (by omega)
  have key : mayL 0 none (afterL l (nextD c r b p q l) got) = true ∧ endOf 0 (afterL l (nextD c r b p q l) got) = endOf 0 l ∧ (0 ≤ afterP b p (nextD c r b p q l) ∧ afterP b p (nextD c r b p q l) ≤ endOf 0 l) ∧ (0 ≤ afterQ q (nextD c r b p q l) ∧ afterQ q (nextD c r b p q l) ≤ 20) ∧
      Ev (fun k => plan_After.j0 k got false c r b p q s l) (afterP b p (nextD c r b p q l), afterQ q (nextD c r b p q l), statD (nextD c r b (afterP b p (nextD c r b p q l)) (afterQ q (nextD c r b p q l)) (afterL l (nextD c r b p q l) got)).1, afterL l (nextD c r b p q l) got) := by
    have hj1 : ∀ (l' : List S33) (kind x y : Int) (fr : Bool), mayL 0 none l' = true → endOf 0 l' = endOf 0 l → 0 ≤ x → 0 ≤ y → x + y ≤ endOf 0 l → (fr = true → q + 1 < r) → 
        (0 ≤ afterP b p (kind, x, y, fr) ∧ afterP b p (kind, x, y, fr) ≤ endOf 0 l) ∧ (0 ≤ afterQ q (kind, x, y, fr) ∧ afterQ q (kind, x, y, fr) ≤ 20) ∧
        Ev (fun k => plan_After.j1 k fr c r b p q s l' kind x y) (afterP b p (kind, x, y, fr), afterQ q (kind, x, y, fr), statD (nextD c r b (afterP b p (kind, x, y, fr)) (afterQ q (kind, x, y, fr)) l').1, l') := by
      intro l' kind x y fr hl' he' hx hy hxy hfr
      have hw : wrap64 (q + 1) = q + 1 := wrap_in (by omega) (by omega)
      have hw2 : wrap64 (x + y) = x + y := wrap_in (by omega) (by omega)
      have hq' : 0 ≤ afterQ q (kind, x, y, fr) ∧ afterQ q (kind, x, y, fr) ≤ 20 := by
        unfold afterQ
        cases fr with
        | true => have := hfr rfl; simp only [if_true]; omega
        | false => simp only [Bool.false_eq_true, if_false]; omega
      have hp' : 0 ≤ afterP b p (kind, x, y, fr) ∧ afterP b p (kind, x, y, fr) ≤ endOf 0 l := by
        unfold afterP
        simp only
        split
        · split <;> omega
        · omega
      refine ⟨hp', hq', ?_⟩
      have hmm : mapD (afterP b p (kind, x, y, fr)) (afterQ q (kind, x, y, fr)) s l' = true := map_mk hl' (by omega) hq' h4
      have hst := status_ev (b := b) ho hmm
      refine Ev.step (f := fun k => _) (fun k => by rw [plan_After.j1]) ?_
      rw [hw, hw2]
      unfold afterP afterQ at hst ⊢
      simp only at hst ⊢
      refine ev_ite (fun g1 => ?_) (fun g1 => ?_)
      · refine ev_ite (fun g2 => ?_) (fun g2 => ?_)
        · refine ev_ite (fun g3 => ?_) (fun g3 => ?_)
          · simp only [g1, g2, g3, if_true] at hst ⊢; exact Ev.bind hst (Ev.now _)
          · simp only [g1, g2, g3, if_true, if_false] at hst ⊢; exact Ev.bind hst (Ev.now _)
        · refine ev_ite (fun g3 => ?_) (fun g3 => ?_)
          · simp only [g1, g2, g3, if_true, if_false] at hst ⊢; exact Ev.bind hst (Ev.now _)
          · simp only [g1, g2, g3, if_true, if_false] at hst ⊢; exact Ev.bind hst (Ev.now _)
      · refine ev_ite (fun g3 => ?_) (fun g3 => ?_)
        · simp only [g1, g3, if_true, if_false] at hst ⊢; exact Ev.bind hst (Ev.now _)
        · simp only [g1, g3, if_true, if_false] at hst ⊢; exact Ev.bind hst (Ev.now _)
    have hn := nextS_ev (b := b) ho hm
    rcases next_spec hl c r b p q h5 h2 with e | ⟨kind, x, y, fr, e, k1, k4, x0, y1, y2, xy, hf, -, -⟩
    · rw [e] at hn ⊢
      have hL : afterL l (0, 0, 0, false) got = l := rfl
      rw [hL]
      obtain ⟨r1, r2, r3⟩ := hj1 l 0 0 0 false hl rfl (by omega) (by omega) (by omega) (fun h => by cases h)
      refine ⟨hl, rfl, r1, r2, ?_⟩
      refine Ev.step (f := fun k => _) (fun k => by rw [plan_After.j0, if_neg (by decide)]) ?_
      refine Ev.bind hn ?_
      simp only [if_true]
      exact r3
    · rw [e] at hn ⊢
      have hmx := mx_ge got 0
      have hmn := mn_le (mx got 0) y
      have hL : afterL l (kind, x, y, fr) got = doneD l kind x y (mn (mx got 0) y) := by unfold afterL; simp only; rw [if_neg (by omega)]
      obtain ⟨d1, d2, d3⟩ := done_ev hl kind x y (mn (mx got 0) y) x0 y1 xy (by omega)
      obtain ⟨r1, r2, r3⟩ := hj1 (doneD l kind x y (mn (mx got 0) y)) kind x y fr d2 d3 x0 (by omega) xy (fun h => (hf h).2)
      rw [hL]
      refine ⟨d2, d3, r1, r2, ?_⟩
      refine Ev.step (f := fun k => _) (fun k => by rw [plan_After.j0, if_neg (by decide)]) ?_
      refine Ev.bind hn ?_
      refine ev_ite (fun g => by simp only at g; omega) (fun _ => ?_)
      exact Ev.bind d1 r3
  obtain ⟨m1, m2, m3, m4, m5⟩ := key
  refine ⟨?_, map_mk m1 (by omega) m4 (statD_is _), m2⟩
  unfold plan_After.f
  simp only [copied_eq p q s hlen, opts_eq, ho, Option.bind_some, if_true]
  have h := mapmay_ev p q s l (by omega)
  rw [hm] at h
  exact Ev.bind h m5
end Go.Proofs.Ytnoilinjlelpaaa.Reg
end

section
namespace Go.Proofs.Ytnoilinjlelpaaa.Reg
set_option linter.unusedSimpArgs false
set_option linter.unusedVariables false
open Go.RowKit Go.Proofs.YtnoilinjlelpaaaW.PrintWords Go.Proofs.YtnoilinjlelpaaaW.PrintLast Go.Proofs.YtnoilinjlelpaaaW.PrintMore Go.Proofs.Ytnoilinjlelpaaa.P

theorem atL_lt {x : Int} : ∀ {l : List S33} {e : Int} {p : Option Int}, mayL e p l = true → e ≤ 1099511627776 → x < e → atL x l = (0, 0, 0, false) := by
  intro l
  induction l with
  | nil => intro e p _ _ _; rfl
  | cons r t ih =>
    intro e p h he hx
    obtain ⟨g1, g2, g3, g4, g5, g6⟩ := mayL_cons h
    rw [atL, if_neg (by omega)]
    exact ih g6 (by omega) (by omega)
theorem atL_reg {x a b s : Int} : ∀ {l : List S33} {e : Int} {p : Option Int}, mayL e p l = true → e ≤ 1099511627776 → atL x l = (a, b, s, true) → e ≤ a ∧ 1 ≤ b ∧ ∀ z, a ≤ z → z < a + b → stAt e l z = some s := by
  intro l
  induction l with
  | nil => intro e p _ _ h; simp [atL] at h
  | cons r t ih =>
    intro e p h he hx
    obtain ⟨g1, g2, g3, g4, g5, g6⟩ := mayL_cons h
    rw [atL] at hx
    by_cases c : x ≥ r.f0 ∧ x < r.f0 + r.f1
    · rw [if_pos c] at hx
      simp only [Prod.mk.injEq] at hx
      obtain ⟨rfl, rfl, rfl, -⟩ := hx
      refine ⟨by omega, g2, fun z h0 h1 => ?_⟩
      simp only [stAt]
      rw [if_neg (by omega), if_pos (by omega)]
    · rw [if_neg c] at hx
      obtain ⟨i1, i2, i3⟩ := ih g6 (by omega) hx
      refine ⟨by omega, i2, fun z h0 h1 => ?_⟩
      simp only [stAt]
      rw [if_neg (by omega), if_neg (by omega)]
      exact i3 z h0 h1
theorem atL_all {l : List S33} (h : mayL 0 none l = true) (x : Int) :
    (∃ a b s, atL x l = (a, b, s, true) ∧ stAt 0 l x = some s ∧ a ≤ x ∧ x < a + b) ∨ (atL x l = (0, 0, 0, false) ∧ stAt 0 l x = none) := by
  by_cases c0 : x < 0
  · exact .inr ⟨atL_lt h (by omega) c0, stAt_out h x (.inl c0)⟩
  · by_cases c1 : x < endOf 0 l
    · exact .inl (atL_st h (by omega) x (by omega) c1)
    · exact .inr ⟨atL_no h (by omega) x (by omega), stAt_out h x (.inr (by omega))⟩
/-- A place's status behind an act. -/
def newS (kind x y got ra rb z s : Int) : Int :=
  if x ≤ z ∧ z < x + y then (if kind = 1 then (if z < x + got then 43 else 42) else if got = y then 43 else 45)
  else if kind = 2 ∧ got ≠ y ∧ ra ≤ z ∧ z < ra + rb then 47 else s
theorem done_st {l : List S33} (hl : mayL 0 none l = true) (kind x y got : Int) (hx : 0 ≤ x) (hy : 1 ≤ y) (hxy : x + y ≤ endOf 0 l) (hg : 0 ≤ got ∧ got ≤ y) :
    ∀ z, stAt 0 (doneD l kind x y got) z = (stAt 0 l z).map (newS kind x y got (atL x l).1 (atL x l).2.1 z) := by
  have hlen := mayL_end hl (by omega)
  intro z
  have fin : ∀ (o : Option Int) (f g : Int → Int), (∀ s, f s = g s) → o.map f = o.map g := fun o f g h => by cases o <;> simp [h]
  unfold doneD
  by_cases k1 : kind = 1
  · rw [if_pos k1]
    obtain ⟨a1, a2, a3, a4⟩ := set_may hl (pos := x) (n := got) (st := 43) hx hg.1 rfl
    obtain ⟨b1, b2, b3, b4⟩ := set_may a2 (pos := x + got) (n := y - got) (st := 42) (by omega) (by omega) rfl
    rw [b4 z, a4 z, Option.map_map]
    refine fin _ _ _ (fun s => ?_)
    simp only [Function.comp, newS, k1, if_true]
    by_cases c1 : x ≤ z ∧ z < x + y
    · rw [if_pos c1]
      by_cases c2 : z < x + got
      · rw [if_neg (by omega), if_pos (by omega), if_pos c2]
      · rw [if_pos (by omega), if_neg c2]
    · rw [if_neg (by omega), if_neg (by omega), if_neg c1, if_neg (by omega)]
  · rw [if_neg k1]
    by_cases g1 : got = y
    · rw [if_pos g1]
      obtain ⟨a1, a2, a3, a4⟩ := set_may hl (pos := x) (n := y) (st := 43) hx (by omega) rfl
      rw [a4 z]
      refine fin _ _ _ (fun s => ?_)
      simp only [newS, k1, g1, if_true, if_false]
      by_cases c1 : x ≤ z ∧ z < x + y
      · rw [if_pos c1, if_pos c1]
      · rw [if_neg c1, if_neg c1, if_neg (by omega)]
    · rw [if_neg g1]
      by_cases k2 : kind = 2
      · rw [if_pos k2]
        obtain ⟨ra, rb, rs, q1, q2, q3, q4⟩ := atL_st hl (by omega) x hx (by omega)
        obtain ⟨h0, h1, -⟩ := atL_reg hl (by omega) q1
        rw [q1]
        obtain ⟨a1, a2, a3, a4⟩ := set_may hl (pos := ra) (n := rb) (st := 47) h0 (by omega) rfl
        obtain ⟨b1, b2, b3, b4⟩ := set_may a2 (pos := x) (n := y) (st := 45) hx (by omega) rfl
        rw [b4 z, a4 z, Option.map_map]
        refine fin _ _ _ (fun s => ?_)
        simp only [Function.comp, newS, k2, g1, if_false]
        by_cases c1 : x ≤ z ∧ z < x + y
        · rw [if_pos c1, if_pos c1, if_neg (by omega)]
        · rw [if_neg c1, if_neg c1]
          by_cases c2 : ra ≤ z ∧ z < ra + rb
          · rw [if_pos c2, if_pos (by simp [c2, g1])]
          · rw [if_neg c2, if_neg (by omega)]
      · rw [if_neg k2]
        obtain ⟨a1, a2, a3, a4⟩ := set_may hl (pos := x) (n := y) (st := 45) hx (by omega) rfl
        rw [a4 z]
        refine fin _ _ _ (fun s => ?_)
        simp only [newS, k1, k2, g1, if_false, false_and]

/-! Counts of places. -/
/-- Of n places from a on, how many have status v. -/
def cnt (f : Int → Option Int) (v a : Int) : Nat → Int
  | 0 => 0
  | n + 1 => cnt f v a n + if f (a + n) = some v then 1 else 0
theorem cnt_add (f : Int → Option Int) (v a : Int) (n m : Nat) : cnt f v a (n + m) = cnt f v a n + cnt f v (a + n) m := by
  induction m with
  | zero => simp [cnt]
  | succ m ih =>
    rw [← Nat.add_assoc, cnt, cnt, ih, show a + ((n + m : Nat) : Int) = a + (n : Int) + (m : Int) by omega]
    omega
theorem cnt_congr (f g : Int → Option Int) (v a : Int) (n : Nat) (h : ∀ z, a ≤ z → z < a + n → (f z = some v ↔ g z = some v)) : cnt f v a n = cnt g v a n := by
  induction n with
  | zero => rfl
  | succ n ih =>
    rw [cnt, cnt, ih (fun z h0 h1 => h z h0 (by omega))]
    have := h (a + n) (by omega) (by omega)
    by_cases c : f (a + n) = some v
    · rw [if_pos c, if_pos (this.1 c)]
    · rw [if_neg c, if_neg (fun e => c (this.2 e))]
theorem cnt_all_ (f : Int → Option Int) (v a : Int) (n : Nat) (h : ∀ z, a ≤ z → z < a + n → f z = some v) : cnt f v a n = n := by
  induction n with
  | zero => rfl
  | succ n ih => rw [cnt, ih (fun z h0 h1 => h z h0 (by omega)), if_pos (h _ (by omega) (by omega))]; omega
theorem cnt_none (f : Int → Option Int) (v a : Int) (n : Nat) (h : ∀ z, a ≤ z → z < a + n → f z ≠ some v) : cnt f v a n = 0 := by
  induction n with
  | zero => rfl
  | succ n ih => rw [cnt, ih (fun z h0 h1 => h z h0 (by omega)), if_neg (h _ (by omega) (by omega))]; omega
theorem cntL_cnt (v : Int) : ∀ (l : List S33) (e : Int) (p : Option Int) (n : Int), mayL e p l = true → 0 ≤ e → e ≤ 1099511627776 → 0 ≤ n → n ≤ e →
    cntL [v] n l = n + cnt (stAt e l) v e (endOf e l - e).toNat := by
  intro l
  induction l with
  | nil => intro e p n _ _ _ _ _; simp [cntL, endOf, cnt]
  | cons r t ih =>
    intro e p n hm h0 he hn0 hne
    obtain ⟨g1, g2, g3, g4, g5, g6⟩ := mayL_cons hm
    have hge := mayL_end g6 (by omega)
    have hE : endOf e (r :: t) = endOf (e + r.f1) t := rfl
    have hsp : (endOf e (r :: t) - e).toNat = r.f1.toNat + (endOf (e + r.f1) t - (e + r.f1)).toNat := by rw [hE]; omega
    rw [hsp, cnt_add, show e + ((r.f1.toNat : Nat) : Int) = e + r.f1 by omega]
    have c2 : cnt (stAt e (r :: t)) v (e + r.f1) (endOf (e + r.f1) t - (e + r.f1)).toNat = cnt (stAt (e + r.f1) t) v (e + r.f1) (endOf (e + r.f1) t - (e + r.f1)).toNat := by
      refine cnt_congr _ _ _ _ _ (fun z z0 z1 => ?_)
      simp only [stAt]
      rw [if_neg (by omega), if_neg (by omega)]
    rw [c2]
    have hst : ∀ z, e ≤ z → z < e + ((r.f1.toNat : Nat) : Int) → stAt e (r :: t) z = some r.f2 := by
      intro z z0 z1
      simp only [stAt]
      rw [if_neg (by omega), if_pos (by omega)]
    by_cases c : r.f2 = v
    · have e1 := cnt_all_ (stAt e (r :: t)) v e r.f1.toNat (fun z z0 z1 => by rw [hst z z0 z1, c])
      rw [cntL, if_pos (.inr (by simp [c])), wrap_in (x := n + r.f1) (by omega) (by omega), ih _ _ _ g6 (by omega) (by omega) (by omega) (by omega), e1]
      omega
    · have e1 := cnt_none (stAt e (r :: t)) v e r.f1.toNat (fun z z0 z1 => by rw [hst z z0 z1]; simpa using c)
      rw [cntL, if_neg (by simp [c]), ih _ _ _ g6 (by omega) (by omega) (by omega) (by omega), e1]
      omega
theorem count_places {l : List S33} (hl : mayL 0 none l = true) (v : Int) : cntL [v] 0 l = cnt (stAt 0 l) v 0 (endOf 0 l).toNat := by
  rw [cntL_cnt v l 0 none 0 hl (by omega) (by omega) (by omega) (by omega)]
  simp
/-- A stretch of places comes to have the status. -/
theorem cnt_more {f g : Int → Option Int} {v E x n : Int} (hx : 0 ≤ x) (hn : 0 ≤ n) (hxn : x + n ≤ E) (h1 : ∀ z, 0 ≤ z → z < E → ¬ (x ≤ z ∧ z < x + n) → (f z = some v ↔ g z = some v)) (h2 : ∀ z, x ≤ z → z < x + n → f z ≠ some v) (h3 : ∀ z, x ≤ z → z < x + n → g z = some v) :
    cnt g v 0 E.toNat = cnt f v 0 E.toNat + n := by
  have hE : E.toNat = (x.toNat + n.toNat) + (E - x - n).toNat := by omega
  rw [hE, cnt_add, cnt_add, cnt_add, cnt_add]
  have a1 := cnt_congr f g v 0 x.toNat (fun z z0 z1 => h1 z z0 (by omega) (by omega))
  have a2 := cnt_none f v (0 + (x.toNat : Int)) n.toNat (fun z z0 z1 => h2 z (by omega) (by omega))
  have a3 := cnt_all_ g v (0 + (x.toNat : Int)) n.toNat (fun z z0 z1 => h3 z (by omega) (by omega))
  have a4 := cnt_congr f g v (0 + ((x.toNat + n.toNat : Nat) : Int)) (E - x - n).toNat (fun z z0 z1 => h1 z (by omega) (by omega) (by omega))
  rw [a1, a2, a3, a4]
  omega
end Go.Proofs.Ytnoilinjlelpaaa.Reg
end

section
namespace Go.Proofs.Ytnoilinjlelpaaa.Reg
set_option linter.unusedSimpArgs false
set_option linter.unusedVariables false
open Go.RowKit Go.Proofs.YtnoilinjlelpaaaW.PrintWords Go.Proofs.YtnoilinjlelpaaaW.PrintLast Go.Proofs.YtnoilinjlelpaaaW.PrintMore Go.Proofs.Ytnoilinjlelpaaa.P

theorem refopts_eq (c r : Int) (b : Bool) : salvorref16_MayOpts.f c r b = some (optsD c r) := by
  unfold salvorref16_MayOpts.f optsD
  by_cases h1 : c ≥ 1
  · rw [if_pos h1]
    by_cases h2 : c ≤ 512
    · rw [if_pos h2]
      by_cases h3 : r ≥ 0
      · rw [if_pos h3]; congr 1; rw [decide_eq_decide]; constructor <;> omega
      · rw [if_neg h3, decide_eq_false (by omega)]
    · rw [if_neg h2, decide_eq_false (by omega)]
  · rw [if_neg h1, decide_eq_false (by omega)]
theorem refmap_ev (p q s : Int) (l : List S33) (hlen : l.length ≤ 4611686018427387904) : Ev (fun k => salvorref16_MayMap.f k p q s l) (mapD p q s l) := by
  unfold salvorref16_MayMap.f mapD
  refine Ev.bind (mayref l hlen) ?_
  cases hl : mayL 0 none l with
  | false => simp only [Bool.false_eq_true, if_false, Bool.false_and]; exact Ev.now _
  | true =>
    have he := endref_ev l hlen
    rw [if_pos hl] at he
    simp only [if_true, Bool.true_and]
    refine ev_ite (fun h1 => ?_) (fun h1 => by rw [decide_eq_false (by omega), Bool.false_and]; exact Ev.now _)
    refine Ev.bind he ?_
    refine ev_ite (fun h2 => ?_) (fun h2 => by rw [decide_eq_false (by omega), Bool.false_and]; exact Ev.now _)
    refine ev_ite (fun h3 => ?_) (fun h3 => by rw [decide_eq_false (by omega), Bool.false_and]; exact Ev.now _)
    refine ev_ite (fun h4 => ?_) (fun h4 => by rw [decide_eq_false (by omega), Bool.false_and]; exact Ev.now _)
    rw [decide_eq_true (by omega), Bool.true_and, status_eq]
    exact Ev.now _
theorem refbegin_ev {l : List S33} (hl : mayL 0 none l = true) (c r : Int) (b : Bool) : Ev (fun k => salvorref16_begin.f k c r b l) (edgeD b l) := by
  have hlen := mayL_end hl (by omega)
  have he := endref_ev l (by omega)
  rw [if_pos hl] at he
  unfold salvorref16_begin.f edgeD
  refine ev_ite (fun h => ?_) (fun h => ?_)
  · rw [if_pos h]; exact Ev.bind he (Ev.now _)
  · rw [if_neg h]; exact Ev.now _
theorem refside_ev {l : List S33} (hl : mayL 0 none l = true) (c r : Int) (b : Bool) (st x : Int) (hx : -9223372036854775808 ≤ x) (hx2 : x ≤ 9223372036854775807) : Ev (fun k => salvorref16_side.f k c r b l st x) (seekD b l st x) := by
  have hlen := mayL_end hl (by omega)
  have hf := firstref_ev l (by omega) st x hx
  have hg := lastref_ev l (by omega) st x hx2
  rw [if_pos hl] at hf hg
  unfold salvorref16_side.f seekD
  refine ev_ite (fun h => ?_) (fun h => ?_)
  · rw [if_pos h]; exact Ev.bind hg (Ev.now _)
  · rw [if_neg h]; exact Ev.bind hf (Ev.now _)
theorem refpart_eq (c r : Int) (b : Bool) (p n s more kind : Int) (hp : 0 ≤ p) (hn : 0 < n) (hpn : p + n ≤ 1099511627776) (hm : 0 ≤ more) (hm2 : more ≤ 1000000) : salvorref16_part.f c r b p n s (more + 1) kind = some (kind, cutD b p n more) := by
  unfold salvorref16_part.f cutD
  have h1 : wrap64 (p + n) = p + n := wrap_in (by omega) (by omega)
  have h2 : wrap64 (p + n - 1) = p + n - 1 := wrap_in (by omega) (by omega)
  have h3 : Int.tmod (p + n - 1) 8 = (p + n - 1) % 8 := Int.tmod_eq_emod_of_nonneg (by omega)
  have h4 : Int.tmod p 8 = p % 8 := Int.tmod_eq_emod_of_nonneg (by omega)
  have h5 : wrap64 (p + n - 1 - (p + n - 1) % 8) = (p + n - 1) / 8 * 8 := by rw [wrap_in (by omega) (by omega)]; omega
  have h6 : wrap64 (more + 1 - 1) = more := by rw [wrap_in (by omega) (by omega)]; omega
  have h7 : wrap64 (more * 8) = more * 8 := wrap_in (by omega) (by omega)
  have h8 : wrap64 ((p + n - 1) / 8 * 8 - more * 8) = (p + n - 1) / 8 * 8 - more * 8 := wrap_in (by omega) (by omega)
  have h9 : wrap64 (p + n - 1 + 1) = p + n := by rw [wrap_in (by omega) (by omega)]; omega
  have h10 : wrap64 (p - p % 8) = p - p % 8 := wrap_in (by omega) (by omega)
  have h11 : wrap64 ((more + 1) * 8) = (more + 1) * 8 := wrap_in (by omega) (by omega)
  have h12 : wrap64 (p - p % 8 + (more + 1) * 8) = p - p % 8 + (more + 1) * 8 := wrap_in (by omega) (by omega)
  have hmx := mx_ge p ((p + n - 1) / 8 * 8 - more * 8)
  by_cases h : b = true
  · rw [if_pos h, if_pos h, h1, h2, h3, h5, h6, h7, h8, h9, wrap_in (x := p + n - mx p ((p + n - 1) / 8 * 8 - more * 8)) (by omega) (by omega)]
  · rw [if_neg h, if_neg h, h1, h4, h10, h11, h12]
    have e : wrap64 (mn (p + n) (p - p % 8 + (more + 1) * 8) - p) = mn n ((p / 8 + 1 + more) * 8 - p) := by
      unfold mn
      split <;> split <;> (rw [wrap_in (by omega) (by omega)]; omega)
    rw [e]
/-- The reference's next act. -/
theorem refnext_ev {c r : Int} {b : Bool} {p q s : Int} {l : List S33} (ho : optsD c r = true) (hm : mapD p q s l = true) : Ev (fun k => salvorref16_next.f k c r b p q s l) (nextD c r b p q l) := by
  obtain ⟨hl, hp, hq, h4⟩ := mapD_spec hm
  obtain ⟨hc, hr⟩ := optsD_spec ho
  have hend := mayL_end hl (by omega)
  have he := edge_range hl b
  have hw : wrap64 (q + 1) = q + 1 := wrap_in (by omega) (by omega)
  have hM := refmap_ev p q s l (by omega)
  rw [hm] at hM
  have hB := refbegin_ev hl c r b
  unfold salvorref16_next.f
  rw [refopts_eq, ho]
  simp only [Option.bind_some, if_true]
  refine Ev.bind hM ?_
  refine Ev.step (f := fun k => _) (fun k => by rw [salvorref16_next.j0, if_neg (by decide)]) ?_
  have hj7 : ∀ (x y z : Int), 0 ≤ x → 0 < y → x + y ≤ 1099511627776 → Ev (fun k => salvorref16_next.j7 k true c r b x y z) (4, (cutD b x y 0).1, (cutD b x y 0).2, true) := by
    intro x y z h1 h2 h3
    refine Ev.step (f := fun k => _) (fun k => by rw [salvorref16_next.j7, if_pos rfl, show (1 : Int) = 0 + 1 from rfl, refpart_eq c r b x y z 0 4 h1 h2 h3 (by omega) (by omega)]) ?_
    exact Ev.now _
  have hj7n : ∀ (x y z : Int), Ev (fun k => salvorref16_next.j7 k false c r b x y z) (0, 0, 0, false) := by
    intro x y z
    exact Ev.step (f := fun k => _) (fun k => by rw [salvorref16_next.j7, if_neg (by decide)]) (Ev.now _)
  have hj4 : Ev (fun k => salvorref16_next.j4 k c r b p q s l) (retryD r b p q l) := by
    unfold retryD
    refine Ev.step (f := fun k => _) (fun k => by rw [salvorref16_next.j4]) ?_
    refine ev_ite (fun h => by rw [if_pos h]; exact Ev.now _) (fun h => ?_)
    rw [if_neg h]
    refine Ev.step (f := fun k => _) (fun k => by rw [salvorref16_next.j5]) ?_
    refine Ev.bind (refside_ev hl c r b 45 p (by omega) (by omega)) ?_
    rcases seek_st hl b 45 p (by omega) with ⟨x, y, e1, e2, e3, e4, -⟩ | ⟨e1, -⟩
    · rw [e1]
      simp only [if_true]
      rw [show (1 : Int) = 0 + 1 from rfl, refpart_eq c r b x y 45 0 4 e2 e3 e4 (by omega) (by omega)]
      exact Ev.now _
    · rw [e1]
      simp only [Bool.false_eq_true, if_false]
      refine Ev.step (f := fun k => _) (fun k => by rw [salvorref16_next.j6]) ?_
      refine Ev.bind hB ?_
      refine Ev.bind (refside_ev hl c r b 45 (edgeD b l) (by omega) (by omega)) ?_
      rw [hw]
      rcases seek_st hl b 45 (edgeD b l) (by omega) with ⟨x, y, e1, e2, e3, e4, -⟩ | ⟨e1, -⟩
      · rw [e1]
        simp only [if_true]
        by_cases c1 : q + 1 < r
        · rw [if_pos c1, decide_eq_true c1]; exact hj7 x y 45 e2 e3 e4
        · rw [if_neg c1, decide_eq_false c1]; exact hj7n x y 45
      · rw [e1]
        simp only [Bool.false_eq_true, if_false, ite_self]
        exact hj7n 0 0 0
  have hhit : ∀ (kind st more : Int) (g : Nat → Option (Int × Int × Int × Bool)) (R : Int × Int × Int × Bool), 0 ≤ more → more ≤ 1000000 → Ev g R →
      Ev (fun k => (salvorref16_begin.f k c r b l).bind fun t => (salvorref16_side.f k c r b l st t).bind fun bt => if bt.2.2.2 = true then (salvorref16_part.f c r b bt.1 bt.2.1 bt.2.2.1 (more + 1) kind).bind fun bu => some (bu.1, bu.2.1, bu.2.2, false) else g k) (hitD b l kind st more R) := by
    intro kind st more g R m0 m1 hR
    refine Ev.bind hB ?_
    refine Ev.bind (refside_ev hl c r b st (edgeD b l) (by omega) (by omega)) ?_
    unfold hitD
    rcases seek_st hl b st (edgeD b l) (by omega) with ⟨x, y, e1, e2, e3, e4, -⟩ | ⟨e1, -⟩
    · rw [e1]
      simp only [if_true]
      rw [refpart_eq c r b x y st more kind e2 e3 e4 m0 m1]
      exact Ev.now _
    · rw [e1]
      simp only [Bool.false_eq_true, if_false]
      exact hR
  unfold nextD
  have hc1 : c = c - 1 + 1 := by omega
  refine Ev.step (f := fun k => _) (fun k => by rw [salvorref16_next.j1]) ?_
  have h3 := hhit 3 47 0 (fun k => salvorref16_next.j4 k c r b p q s l) _ (by omega) (by omega) hj4
  have h3' : Ev (fun k => salvorref16_next.j3 k c r b p q s l) (hitD b l 3 47 0 (retryD r b p q l)) := Ev.step (f := fun k => _) (fun k => by rw [salvorref16_next.j3]; rfl) h3
  have h2 := hhit 2 42 0 (fun k => salvorref16_next.j3 k c r b p q s l) _ (by omega) (by omega) h3'
  have h2' : Ev (fun k => salvorref16_next.j2 k c r b p q s l) (hitD b l 2 42 0 (hitD b l 3 47 0 (retryD r b p q l))) := Ev.step (f := fun k => _) (fun k => by rw [salvorref16_next.j2]; rfl) h2
  have h1 := hhit 1 63 (c - 1) (fun k => salvorref16_next.j2 k c r b p q s l) _ (by omega) (by omega) h2'
  rw [← hc1] at h1
  exact h1
theorem refnext_no {c r : Int} {b : Bool} {p q s : Int} {l : List S33} (hlen : l.length ≤ 1000000) (h : optsD c r = false ∨ mapD p q s l = false) : Ev (fun k => salvorref16_next.f k c r b p q s l) (0, 0, 0, false) := by
  have hj : Ev (fun k => salvorref16_next.j0 k true c r b p q s l) (0, 0, 0, false) := Ev.step (f := fun _ => _) (fun k => by rw [salvorref16_next.j0, if_pos rfl]) (Ev.now _)
  unfold salvorref16_next.f
  rw [refopts_eq]
  cases ho : optsD c r with
  | false => simp only [Option.bind_some, Bool.false_eq_true, if_false]; exact hj
  | true =>
    simp only [Option.bind_some, if_true]
    have h2 := refmap_ev p q s l (by omega)
    rw [show mapD p q s l = false by simp_all] at h2
    exact Ev.bind h2 hj
end Go.Proofs.Ytnoilinjlelpaaa.Reg
end

section
namespace Go.Proofs.Ytnoilinjlelpaaa.Reg
set_option linter.unusedSimpArgs false
set_option linter.unusedVariables false
open Go.RowKit Go.Proofs.YtnoilinjlelpaaaW.PrintWords Go.Proofs.YtnoilinjlelpaaaW.PrintLast Go.Proofs.YtnoilinjlelpaaaW.PrintMore Go.Proofs.Ytnoilinjlelpaaa.P

theorem refcopy_eq (p q s : Int) {l : List S33} (hlen : l.length ≤ 1000000) : salvorref16_CopyMap.f p q s l = some (p, q, s, l) := by
  unfold salvorref16_CopyMap.f
  simp only [List.length_nil, List.nil_append]
  rw [if_pos (by omega)]
theorem reftold_ev {c r : Int} {b : Bool} {p q s : Int} {l : List S33} (ho : optsD c r = true) (hm : mapD p q s l = true) : Ev (fun k => salvorref16_told.f k c r b p q s l) (p, q, statD (nextD c r b p q l).1, l) := by
  unfold salvorref16_told.f salvorref16_Next.f
  refine Ev.bind (Ev.bind (refnext_ev ho hm) (Ev.now _)) ?_
  rw [statusOf_eq]
  exact Ev.now _
theorem samemap_self (p q s : Int) (l : List S33) (hlen : l.length ≤ 4611686018427387904) : Ev (fun k => salvorref16_SameMap.f k p q s l p q s l) true := by
  unfold salvorref16_SameMap.f
  simp only [if_true]
  exact Ev.bind (same_self l hlen) (Ev.now _)
end Go.Proofs.Ytnoilinjlelpaaa.Reg
end
