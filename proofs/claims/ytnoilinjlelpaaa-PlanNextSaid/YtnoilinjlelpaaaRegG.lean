/- The reference's first and last region of a status are the program's. No conditions beyond those that the lemmas name. -/
import Derived.Test.YtnoilinjlelpaaaPx0
import Derived.Test.YtnoilinjlelpaaaPx8
import Derived.Test.YtnoilinjlelpaaaPx22
import Derived.Test.YtnoilinjlelpaaaPx26
import Derived.Test.YtnoilinjlelpaaaPx27
import Derived.Test.YtnoilinjlelpaaaRegD
import Derived.Test.YtnoilinjlelpaaaRegAr
namespace Go.Proofs.Ytnoilinjlelpaaa.Reg
open Go.RowKit Go.Proofs.YtnoilinjlelpaaaW.PrintWords Go.Proofs.YtnoilinjlelpaaaW.PrintLast Go.Proofs.YtnoilinjlelpaaaW.PrintMore Go.Proofs.Ytnoilinjlelpaaa.P

theorem firstref_ev' (l : List S33) (hl : mayL 0 none l = true) (st x : Int) (hx : -9223372036854775808 ≤ x) : ∀ (t : List S33) (i : Nat), l.drop i = t → Ev (fun k => salvorref16_First.l0 k l st x (i : Int)) (firstL st x t) := by
  have hb := mayL_end hl (by omega)
  intro t
  induction t with
  | nil =>
    intro i h
    have hge := drop_nil_ge h
    refine Ev.step (f := fun k => salvorref16_First.j1 k l st x (i : Int) false) (fun k => ?_) (Ev.step (f := fun _ => some (0, 0, 0, false)) (fun k => ?_) (Ev.now _))
    · simp only [salvorref16_First.l0]
      rw [if_neg (by omega)]
    · simp [salvorref16_First.j1]
  | cons r t ih =>
    intro i h
    have hlt := drop_lt h
    have hr := rd_at l i r t h
    have hm := may_mem hl (by omega) r (by rw [← hr]; exact rd_mem hlt)
    have hmx := mx_ge r.f0 x
    have key : ∀ k, salvorref16_First.j1 (k + 1) l st x (i : Int) true = if r.f2 = st ∧ x < r.f0 + r.f1 then some (mx r.f0 x, r.f0 + r.f1 - mx r.f0 x, st, true) else salvorref16_First.l0 k l st x ((i + 1 : Nat) : Int) := by
      intro k
      simp only [salvorref16_First.j1, if_true]
      rw [if_pos (by omega), if_pos (by omega), hr, wrap_in (x := r.f0 + r.f1) (by omega) (by omega), wrap_in (x := (i : Int) + 1) (by omega) (by omega)]
      by_cases c1 : r.f2 = st
      · rw [if_pos c1]
        by_cases c2 : x < r.f0 + r.f1
        · rw [if_pos (show mx r.f0 x < r.f0 + r.f1 by omega), if_pos ⟨c1, c2⟩, wrap_in (x := r.f0 + r.f1 - mx r.f0 x) (by omega) (by omega)]
        · rw [if_neg (show ¬ mx r.f0 x < r.f0 + r.f1 by omega), if_neg (fun hh => c2 hh.2)]; rfl
      · rw [if_neg c1, if_neg (fun hh => c1 hh.1)]; rfl
    refine Ev.step (f := fun k => (salvorref16_MayRegions.f k l).bind fun b => salvorref16_First.j1 k l st x (i : Int) b) (fun k => ?_) (Ev.bind (mayref l (by omega)) ?_)
    · simp only [salvorref16_First.l0]
      rw [if_pos (by omega)]
    · rw [hl, firstL]
      by_cases c : r.f2 = st ∧ x < r.f0 + r.f1
      · rw [if_pos c]
        exact Ev.step (f := fun _ => some (mx r.f0 x, r.f0 + r.f1 - mx r.f0 x, st, true)) (fun k => by rw [key k, if_pos c]) (Ev.now _)
      · rw [if_neg c]
        exact Ev.step (f := fun k => salvorref16_First.l0 k l st x ((i + 1 : Nat) : Int)) (fun k => by rw [key k, if_neg c]) (ih (i + 1) (drop_succ h))
theorem firstref_ev (l : List S33) (hl : l.length ≤ 4611686018427387904) (st x : Int) (hx : -9223372036854775808 ≤ x) : Ev (fun k => salvorref16_First.f k l st x) (if mayL 0 none l = true then firstL st x l else (0, 0, 0, false)) := by
  unfold salvorref16_First.f
  cases hm : mayL 0 none l with
  | true => simp only [if_true]; exact firstref_ev' l hm st x hx l 0 rfl
  | false =>
    simp only [Bool.false_eq_true, if_false]
    have hj : Ev (fun k => salvorref16_First.j1 k l st x 0 false) (0, 0, 0, false) := Ev.step (f := fun _ => some (0, 0, 0, false)) (fun k => by simp [salvorref16_First.j1]) (Ev.now _)
    by_cases c : 0 < (l.length : Int)
    · refine Ev.step (f := fun k => (salvorref16_MayRegions.f k l).bind fun b => salvorref16_First.j1 k l st x 0 b) (fun k => ?_) (Ev.bind (mayref l hl) (by rw [hm]; exact hj))
      simp only [salvorref16_First.l0]
      rw [if_pos c]
    · refine Ev.step (f := fun k => salvorref16_First.j1 k l st x 0 false) (fun k => ?_) hj
      simp only [salvorref16_First.l0]
      rw [if_neg c]

theorem lastref_ev' (l : List S33) (hl : mayL 0 none l = true) (st x : Int) (hx : x ≤ 9223372036854775807) : ∀ n : Nat, n ≤ l.length → Ev (fun k => salvorref16_Last.l0 k l st x ((n : Int) - 1)) (region_Last.g l st x n) := by
  have hb := mayL_end hl (by omega)
  intro n
  induction n with
  | zero =>
    intro _
    refine Ev.step (f := fun k => salvorref16_Last.j1 k l st x (((0 : Nat) : Int) - 1) false) (fun k => ?_) (Ev.step (f := fun _ => some (0, 0, 0, false)) (fun k => ?_) (Ev.now _))
    · simp only [salvorref16_Last.l0]
      rw [if_neg (by omega)]
    · simp [salvorref16_Last.j1]
  | succ n ih =>
    intro hn
    have e1 : ((n + 1 : Nat) : Int) - 1 = (n : Int) := by omega
    rw [e1]
    obtain ⟨r, hr⟩ : ∃ r, rd_T33 l (n : Int) = r := ⟨_, rfl⟩
    have hm := may_mem hl (by omega) r (by rw [← hr]; exact rd_mem (by omega))
    have hmn := mn_le (r.f0 + r.f1) x
    have key : ∀ k, salvorref16_Last.j1 (k + 1) l st x (n : Int) true = if r.f2 = st ∧ r.f0 < x then some (r.f0, mn r.f1 (wrap64 (x - r.f0)), st, true) else salvorref16_Last.l0 k l st x ((n : Int) - 1) := by
      intro k
      simp only [salvorref16_Last.j1, if_true]
      rw [if_pos (by omega), if_pos (by omega), hr, wrap_in (x := r.f0 + r.f1) (by omega) (by omega), wrap_in (x := (n : Int) - 1) (by omega) (by omega)]
      by_cases c1 : r.f2 = st
      · rw [if_pos c1]
        by_cases c2 : r.f0 < x
        · rw [if_pos (show r.f0 < mn (r.f0 + r.f1) x by omega), if_pos ⟨c1, c2⟩, wrap_in (x := mn (r.f0 + r.f1) x - r.f0) (by omega) (by omega), wrap_in (x := x - r.f0) (by omega) (by omega)]
          have : mn (r.f0 + r.f1) x - r.f0 = mn r.f1 (x - r.f0) := by unfold mn; split <;> split <;> omega
          rw [this]
        · rw [if_neg (show ¬ r.f0 < mn (r.f0 + r.f1) x by omega), if_neg (fun hh => c2 hh.2)]
      · rw [if_neg c1, if_neg (fun hh => c1 hh.1)]
    refine Ev.step (f := fun k => (salvorref16_MayRegions.f k l).bind fun b => salvorref16_Last.j1 k l st x (n : Int) b) (fun k => ?_) (Ev.bind (mayref l (by omega)) ?_)
    · simp only [salvorref16_Last.l0]
      rw [if_pos (by omega)]
    · rw [hl, region_Last.g, hr]
      by_cases c : r.f2 = st ∧ r.f0 < x
      · rw [if_pos c]
        exact Ev.step (f := fun _ => some (r.f0, mn r.f1 (wrap64 (x - r.f0)), st, true)) (fun k => by rw [key k, if_pos c]) (Ev.now _)
      · rw [if_neg c]
        exact Ev.step (f := fun k => salvorref16_Last.l0 k l st x ((n : Int) - 1)) (fun k => by rw [key k, if_neg c]) (ih (by omega))
theorem lastref_ev (l : List S33) (hl : l.length ≤ 4611686018427387904) (st x : Int) (hx : x ≤ 9223372036854775807) : Ev (fun k => salvorref16_Last.f k l st x) (if mayL 0 none l = true then region_Last.g l st x l.length else (0, 0, 0, false)) := by
  unfold salvorref16_Last.f
  rw [wrap_in (x := (l.length : Int) - 1) (by omega) (by omega)]
  cases hm : mayL 0 none l with
  | true => simp only [if_true]; exact lastref_ev' l hm st x hx l.length (Nat.le_refl _)
  | false =>
    simp only [Bool.false_eq_true, if_false]
    have hj : Ev (fun k => salvorref16_Last.j1 k l st x ((l.length : Int) - 1) false) (0, 0, 0, false) := Ev.step (f := fun _ => some (0, 0, 0, false)) (fun k => by simp [salvorref16_Last.j1]) (Ev.now _)
    by_cases c : (l.length : Int) - 1 ≥ 0
    · refine Ev.step (f := fun k => (salvorref16_MayRegions.f k l).bind fun b => salvorref16_Last.j1 k l st x ((l.length : Int) - 1) b) (fun k => ?_) (Ev.bind (mayref l hl) (by rw [hm]; exact hj))
      simp only [salvorref16_Last.l0]
      rw [if_pos c]
    · refine Ev.step (f := fun k => salvorref16_Last.j1 k l st x ((l.length : Int) - 1) false) (fun k => ?_) hj
      simp only [salvorref16_Last.l0]
      rw [if_neg c]
end Go.Proofs.Ytnoilinjlelpaaa.Reg
