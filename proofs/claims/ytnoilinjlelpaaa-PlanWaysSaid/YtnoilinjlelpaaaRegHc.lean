/- How many places have which statuses, as the program counts. No conditions beyond those that the lemmas name. -/
import Derived.Test.YtnoilinjlelpaaaPx0
import Derived.Test.YtnoilinjlelpaaaPx43
import Derived.Test.YtnoilinjlelpaaaPx44
import Derived.Test.YtnoilinjlelpaaaRegA
namespace Go.Proofs.Ytnoilinjlelpaaa.Reg
open Go.RowKit Go.Proofs.YtnoilinjlelpaaaW.PrintWords Go.Proofs.YtnoilinjlelpaaaW.PrintLast Go.Proofs.YtnoilinjlelpaaaW.PrintMore Go.Proofs.Ytnoilinjlelpaaa.P
theorem rdI_at (l : List Int) (i : Nat) (r : Int) (t : List Int) (h : l.drop i = r :: t) : rd l (i : Int) = r := by
  unfold rd
  have h1 : l[i]? = some r := by
    have := List.getElem?_drop (xs := l) (i := i) (j := 0)
    rw [h] at this
    simpa using this.symm
  simp [List.getD, h1]
theorem index_ev (l : List Int) (hl : l.length ≤ 4611686018427387904) (x : Int) : ∀ (t : List Int) (i : Nat), l.drop i = t → ∃ r, Ev (fun k => slices_Index_byte_byte.l0 k l x (l.length : Int) (i : Int)) r ∧ (decide (r ≥ 0)) = t.contains x := by
  intro t
  induction t with
  | nil =>
    intro i h
    have hge := drop_nil_ge h
    refine ⟨-1, Ev.step (f := fun _ => some (-1)) (fun k => ?_) (Ev.now _), by simp⟩
    simp only [slices_Index_byte_byte.l0]
    rw [if_neg (by omega)]
  | cons q t ih =>
    intro i h
    have hlt := drop_lt h
    have hr := rdI_at l i q t h
    by_cases c : x = q
    · refine ⟨i, Ev.step (f := fun _ => some (i : Int)) (fun k => ?_) (Ev.now _), by simp [c]⟩
      simp only [slices_Index_byte_byte.l0]
      rw [if_pos (by omega), if_pos (by omega), if_pos (by omega), hr, if_pos c]
    · obtain ⟨r, h1, h2⟩ := ih (i + 1) (drop_succ h)
      refine ⟨r, Ev.step (f := fun k => slices_Index_byte_byte.l0 k l x (l.length : Int) ((i + 1 : Nat) : Int)) (fun k => ?_) h1, by rw [h2]; simp [c]⟩
      simp only [slices_Index_byte_byte.l0]
      rw [if_pos (by omega), if_pos (by omega), if_pos (by omega), hr, if_neg c, wrap_in (x := (i : Int) + 1) (by omega) (by omega)]
      rfl
theorem contains_ev (l : List Int) (hl : l.length ≤ 4611686018427387904) (x : Int) : Ev (fun k => slices_Contains_byte_byte.f k l x) (l.contains x) := by
  obtain ⟨r, h1, h2⟩ := index_ev l hl x l 0 rfl
  unfold slices_Contains_byte_byte.f slices_Index_byte_byte.f
  refine Ev.bind h1 ?_
  rw [h2]
  exact Ev.now _

/-- The sum of the sizes, as the code reckons. -/
def cntL (ss : List Int) (n : Int) : List S33 → Int
  | [] => n
  | r :: t => cntL ss (if ss = [] ∨ ss.contains r.f2 = true then wrap64 (n + r.f1) else n) t
theorem count_ev' (l : List S33) (hl : l.length ≤ 4611686018427387904) (ss : List Int) (hss : ss.length ≤ 4611686018427387904) : ∀ (t : List S33) (i : Nat) (n : Int), l.drop i = t → Ev (fun k => region_Count.l0 k ss n l (l.length : Int) (i : Int)) (cntL ss n t) := by
  intro t
  induction t with
  | nil =>
    intro i n h
    have hge := drop_nil_ge h
    refine Ev.step (f := fun _ => some n) (fun k => ?_) (Ev.now _)
    simp only [region_Count.l0]
    rw [if_neg (by omega)]
  | cons r t ih =>
    intro i n h
    have hlt := drop_lt h
    have hr := rd_at l i r t h
    have hi := ih (i + 1)
    by_cases c : ss = []
    · refine Ev.step (f := fun k => region_Count.l0 k ss (wrap64 (n + r.f1)) l (l.length : Int) ((i + 1 : Nat) : Int)) (fun k => ?_) ?_
      · simp only [region_Count.l0]
        rw [if_pos (by omega), if_pos (by omega), if_pos (by omega), hr, if_pos (by simp [c]), wrap_in (x := (i : Int) + 1) (by omega) (by omega)]
        rfl
      · rw [cntL, if_pos (.inl c)]
        exact hi _ (drop_succ h)
    · have hne : ¬ (ss.length : Int) = 0 := by
        have : ss.length ≠ 0 := by simpa using c
        omega
      refine Ev.step (f := fun k => (slices_Contains_byte_byte.f k ss r.f2).bind fun b => if b = true then region_Count.l0 k ss (wrap64 (n + r.f1)) l (l.length : Int) ((i + 1 : Nat) : Int) else region_Count.l0 k ss n l (l.length : Int) ((i + 1 : Nat) : Int)) (fun k => ?_) (Ev.bind (contains_ev ss hss r.f2) ?_)
      · simp only [region_Count.l0]
        rw [if_pos (by omega), if_pos (by omega), if_pos (by omega), hr, if_neg hne, wrap_in (x := (i : Int) + 1) (by omega) (by omega)]
        rfl
      · rw [cntL]
        cases hc : ss.contains r.f2 with
        | true => simp only [if_true, or_true]; exact hi _ (drop_succ h)
        | false => simp only [c, Bool.false_eq_true, if_false, or_self]; exact hi _ (drop_succ h)
theorem count_ev (l : List S33) (hl : l.length ≤ 4611686018427387904) (ss : List Int) (hss : ss.length ≤ 4611686018427387904) : Ev (fun k => region_Count.f k l ss) (if mayL 0 none l = true then cntL ss 0 l else 0) := by
  unfold region_Count.f
  refine Ev.bind (may l hl) ?_
  cases hm : mayL 0 none l with
  | false => exact Ev.now _
  | true => simp only [if_true]; exact count_ev' l hl ss hss l 0 0 rfl
end Go.Proofs.Ytnoilinjlelpaaa.Reg
