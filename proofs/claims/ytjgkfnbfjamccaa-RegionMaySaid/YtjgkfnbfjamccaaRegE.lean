/- The reference's May, end and region of a place are the program's. No conditions beyond those that the lemmas name. -/
import Derived.Test.YtjgkfnbfjamccaaPx0
import Derived.Test.YtjgkfnbfjamccaaPx5
import Derived.Test.YtjgkfnbfjamccaaPx20
import Derived.Test.YtjgkfnbfjamccaaPx21
import Derived.Test.YtjgkfnbfjamccaaPx33
import Derived.Test.YtjgkfnbfjamccaaRegD
import Derived.Test.YtjgkfnbfjamccaaRegAr
namespace Go.Proofs.Ytjgkfnbfjamccaa.Reg
open Go.RowKit Go.Proofs.YtjgkfnbfjamccaaW.PrintWords Go.Proofs.YtjgkfnbfjamccaaW.PrintLast Go.Proofs.YtjgkfnbfjamccaaW.PrintMore Go.Proofs.Ytjgkfnbfjamccaa.P

theorem endref_ev (l : List S26) (hl : l.length ≤ 4611686018427387904) : Ev (fun k => salvorref16_End.f k l) (if mayL 0 none l = true then endOf 0 l else 0) := by
  unfold salvorref16_End.f
  refine Ev.bind (mayref l hl) ?_
  cases hm : mayL 0 none l with
  | false => exact Ev.now _
  | true =>
    have he := end_may hm
    unfold region_end.f at he
    simp only [if_true, he]
    exact Ev.now _
theorem atref_ev' (l : List S26) (hl : mayL 0 none l = true) (x : Int) : ∀ (t : List S26) (i : Nat), l.drop i = t → Ev (fun k => salvorref16_At.l0 k l x (i : Int)) (atL x t) := by
  have hb := mayL_end hl (by omega)
  intro t
  induction t with
  | nil =>
    intro i h
    have hge := drop_nil_ge h
    refine Ev.step (f := fun k => salvorref16_At.j1 k l x (i : Int) false) (fun k => ?_) (Ev.step (f := fun _ => some (0, 0, 0, false)) (fun k => ?_) (Ev.now _))
    · simp only [salvorref16_At.l0]
      rw [if_neg (by omega)]
    · simp [salvorref16_At.j1]
  | cons r t ih =>
    intro i h
    have hlt := drop_lt h
    have hr := rd_at l i r t h
    have hm := may_mem hl (by omega) r (by rw [← hr]; exact rd_mem hlt)
    have key : ∀ k, salvorref16_At.j1 (k + 1) l x (i : Int) true = if x ≥ r.f0 ∧ x < r.f0 + r.f1 then some (r.f0, r.f1, r.f2, true) else salvorref16_At.l0 k l x ((i + 1 : Nat) : Int) := by
      intro k
      simp only [salvorref16_At.j1, if_true]
      rw [if_pos (by omega), if_pos (by omega), hr, wrap_in (x := r.f0 + r.f1) (by omega) (by omega), wrap_in (x := (i : Int) + 1) (by omega) (by omega)]
      by_cases c1 : x ≥ r.f0
      · rw [if_pos c1]
        by_cases c2 : x < r.f0 + r.f1
        · rw [if_pos c2, if_pos ⟨c1, c2⟩]
        · rw [if_neg c2, if_neg (fun hh => c2 hh.2)]; rfl
      · rw [if_neg c1, if_neg (fun hh => c1 hh.1)]; rfl
    refine Ev.step (f := fun k => (salvorref16_MayRegions.f k l).bind fun b => salvorref16_At.j1 k l x (i : Int) b) (fun k => ?_) (Ev.bind (mayref l (by omega)) ?_)
    · simp only [salvorref16_At.l0]
      rw [if_pos (by omega)]
    · rw [hl, atL]
      by_cases c : x ≥ r.f0 ∧ x < r.f0 + r.f1
      · rw [if_pos c]
        exact Ev.step (f := fun _ => some (r.f0, r.f1, r.f2, true)) (fun k => by rw [key k, if_pos c]) (Ev.now _)
      · rw [if_neg c]
        exact Ev.step (f := fun k => salvorref16_At.l0 k l x ((i + 1 : Nat) : Int)) (fun k => by rw [key k, if_neg c]) (ih (i + 1) (drop_succ h))
theorem atref_ev (l : List S26) (hl : l.length ≤ 4611686018427387904) (x : Int) : Ev (fun k => salvorref16_At.f k l x) (if mayL 0 none l = true then atL x l else (0, 0, 0, false)) := by
  unfold salvorref16_At.f
  cases hm : mayL 0 none l with
  | true => simp only [if_true]; exact atref_ev' l hm x l 0 rfl
  | false =>
    simp only [Bool.false_eq_true, if_false]
    have hj : Ev (fun k => salvorref16_At.j1 k l x 0 false) (0, 0, 0, false) := Ev.step (f := fun _ => some (0, 0, 0, false)) (fun k => by simp [salvorref16_At.j1]) (Ev.now _)
    by_cases c : 0 < (l.length : Int)
    · refine Ev.step (f := fun k => (salvorref16_MayRegions.f k l).bind fun b => salvorref16_At.j1 k l x 0 b) (fun k => ?_) (Ev.bind (mayref l hl) (by rw [hm]; exact hj))
      simp only [salvorref16_At.l0]
      rw [if_pos c]
    · refine Ev.step (f := fun k => salvorref16_At.j1 k l x 0 false) (fun k => ?_) hj
      simp only [salvorref16_At.l0]
      rw [if_neg c]
end Go.Proofs.Ytjgkfnbfjamccaa.Reg
