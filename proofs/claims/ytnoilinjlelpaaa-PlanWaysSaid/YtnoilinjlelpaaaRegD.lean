/- The region of a place, the first and the last region of a status, in plain Lean: what the program answers. No conditions beyond those that the lemmas name. -/
import Derived.Test.YtnoilinjlelpaaaPx0
import Derived.Test.YtnoilinjlelpaaaPx7
import Derived.Test.YtnoilinjlelpaaaPx8
import Derived.Test.YtnoilinjlelpaaaPx14
import Derived.Test.YtnoilinjlelpaaaRegA
namespace Go.Proofs.Ytnoilinjlelpaaa.Reg
open Go.RowKit Go.Proofs.YtnoilinjlelpaaaW.PrintWords Go.Proofs.YtnoilinjlelpaaaW.PrintLast Go.Proofs.YtnoilinjlelpaaaW.PrintMore Go.Proofs.Ytnoilinjlelpaaa.P

theorem may_mem {e : Int} {p : Option Int} {l : List S33} (h : mayL e p l = true) (he : e ≤ 1099511627776) : ∀ r ∈ l, e ≤ r.f0 ∧ 1 ≤ r.f1 ∧ r.f0 + r.f1 ≤ 1099511627776 ∧ isS r.f2 = true := by
  induction l generalizing e p with
  | nil => simp
  | cons q t ih =>
    obtain ⟨g1, g2, g3, g4, g5, g6⟩ := mayL_cons h
    intro r hr
    rcases List.mem_cons.1 hr with rfl | hr
    · exact ⟨by omega, g2, by omega, g4⟩
    · obtain ⟨k1, k2, k3, k4⟩ := ih g6 (by omega) r hr
      exact ⟨by omega, k2, k3, k4⟩
theorem rd_mem {l : List S33} {i : Nat} (h : i < l.length) : rd_T33 l (i : Int) ∈ l := by
  unfold rd_T33
  simp [List.getD, h]

def atL (x : Int) : List S33 → Int × Int × Int × Bool
  | [] => (0, 0, 0, false)
  | r :: t => if x ≥ r.f0 ∧ x < r.f0 + r.f1 then (r.f0, r.f1, r.f2, true) else atL x t
def firstL (st x : Int) : List S33 → Int × Int × Int × Bool
  | [] => (0, 0, 0, false)
  | r :: t => if r.f2 = st ∧ x < r.f0 + r.f1 then (mx r.f0 x, r.f0 + r.f1 - mx r.f0 x, st, true) else firstL st x t

theorem at_ev' (l : List S33) (hl : mayL 0 none l = true) (x : Int) : ∀ (t : List S33) (i : Nat), l.drop i = t → Ev (fun k => region_At.l0 k x l (l.length : Int) (i : Int)) (atL x t) := by
  have hb := mayL_end hl (by omega)
  intro t
  induction t with
  | nil =>
    intro i h
    have hge := drop_nil_ge h
    refine Ev.step (f := fun _ => some (0, 0, 0, false)) (fun k => ?_) (Ev.now _)
    simp only [region_At.l0]
    rw [if_neg (by omega)]
  | cons r t ih =>
    intro i h
    have hlt := drop_lt h
    have hr := rd_at l i r t h
    have hm := may_mem hl (by omega) r (by rw [← hr]; exact rd_mem hlt)
    have key : ∀ k, region_At.l0 (k + 1) x l (l.length : Int) (i : Int) = if x ≥ r.f0 ∧ x < r.f0 + r.f1 then some (r.f0, r.f1, r.f2, true) else region_At.l0 k x l (l.length : Int) ((i + 1 : Nat) : Int) := by
      intro k
      simp only [region_At.l0]
      rw [if_pos (by omega), if_pos (by omega), if_pos (by omega), hr, wrap_in (x := r.f0 + r.f1) (by omega) (by omega), wrap_in (x := (i : Int) + 1) (by omega) (by omega)]
      by_cases c1 : x ≥ r.f0
      · rw [if_pos c1]
        by_cases c2 : x < r.f0 + r.f1
        · rw [if_pos c2, if_pos ⟨c1, c2⟩]
        · rw [if_neg c2, if_neg (fun hh => c2 hh.2)]; rfl
      · rw [if_neg c1, if_neg (fun hh => c1 hh.1)]; rfl
    rw [atL]
    by_cases c : x ≥ r.f0 ∧ x < r.f0 + r.f1
    · rw [if_pos c]
      exact Ev.step (f := fun _ => some (r.f0, r.f1, r.f2, true)) (fun k => by rw [key k, if_pos c]) (Ev.now _)
    · rw [if_neg c]
      exact Ev.step (f := fun k => region_At.l0 k x l (l.length : Int) ((i + 1 : Nat) : Int)) (fun k => by rw [key k, if_neg c]) (ih (i + 1) (drop_succ h))
theorem at_ev (l : List S33) (hl : l.length ≤ 4611686018427387904) (x : Int) : Ev (fun k => region_At.f k l x) (if mayL 0 none l = true then atL x l else (0, 0, 0, false)) := by
  unfold region_At.f
  refine Ev.bind (may l hl) ?_
  cases hm : mayL 0 none l with
  | false => exact Ev.now _
  | true => simp only [if_true]; exact at_ev' l hm x l 0 rfl

theorem first_ev' (l : List S33) (hl : mayL 0 none l = true) (st x : Int) (hx : -9223372036854775808 ≤ x) : ∀ (t : List S33) (i : Nat), l.drop i = t → Ev (fun k => region_First.l0 k st x l (l.length : Int) (i : Int)) (firstL st x t) := by
  have hb := mayL_end hl (by omega)
  intro t
  induction t with
  | nil =>
    intro i h
    have hge := drop_nil_ge h
    refine Ev.step (f := fun _ => some (0, 0, 0, false)) (fun k => ?_) (Ev.now _)
    simp only [region_First.l0]
    rw [if_neg (by omega)]
  | cons r t ih =>
    intro i h
    have hlt := drop_lt h
    have hr := rd_at l i r t h
    have hm := may_mem hl (by omega) r (by rw [← hr]; exact rd_mem hlt)
    have key : ∀ k, region_First.l0 (k + 1) st x l (l.length : Int) (i : Int) = if r.f2 = st ∧ x < r.f0 + r.f1 then some (mx r.f0 x, r.f0 + r.f1 - mx r.f0 x, st, true) else region_First.l0 k st x l (l.length : Int) ((i + 1 : Nat) : Int) := by
      intro k
      have hmx := mx_ge r.f0 x
      simp only [region_First.l0]
      rw [if_pos (by omega), if_pos (by omega), if_pos (by omega), hr, wrap_in (x := r.f0 + r.f1) (by omega) (by omega), wrap_in (x := (i : Int) + 1) (by omega) (by omega)]
      by_cases c1 : r.f2 = st
      · rw [if_pos c1]
        by_cases c2 : r.f0 + r.f1 > x
        · rw [if_pos c2, if_pos ⟨c1, c2⟩, wrap_in (x := r.f0 + r.f1 - mx r.f0 x) (by omega) (by omega)]
        · rw [if_neg c2, if_neg (fun hh => c2 hh.2)]; rfl
      · rw [if_neg c1, if_neg (fun hh => c1 hh.1)]; rfl
    rw [firstL]
    by_cases c : r.f2 = st ∧ x < r.f0 + r.f1
    · rw [if_pos c]
      exact Ev.step (f := fun _ => some (mx r.f0 x, r.f0 + r.f1 - mx r.f0 x, st, true)) (fun k => by rw [key k, if_pos c]) (Ev.now _)
    · rw [if_neg c]
      exact Ev.step (f := fun k => region_First.l0 k st x l (l.length : Int) ((i + 1 : Nat) : Int)) (fun k => by rw [key k, if_neg c]) (ih (i + 1) (drop_succ h))
theorem first_ev (l : List S33) (hl : l.length ≤ 4611686018427387904) (st x : Int) (hx : -9223372036854775808 ≤ x) : Ev (fun k => region_First.f k l st x) (if mayL 0 none l = true then firstL st x l else (0, 0, 0, false)) := by
  unfold region_First.f
  refine Ev.bind (may l hl) ?_
  cases hm : mayL 0 none l with
  | false => exact Ev.now _
  | true => simp only [if_true]; exact first_ev' l hm st x hx l 0 rfl
theorem last_ev (l : List S33) (hl : l.length ≤ 4611686018427387904) (st x : Int) : Ev (fun k => region_Last.f k l st x) (if mayL 0 none l = true then region_Last.g l st x l.length else (0, 0, 0, false)) := by
  unfold region_Last.f
  exact Ev.bind (may l hl) (Ev.now _)
end Go.Proofs.Ytnoilinjlelpaaa.Reg
