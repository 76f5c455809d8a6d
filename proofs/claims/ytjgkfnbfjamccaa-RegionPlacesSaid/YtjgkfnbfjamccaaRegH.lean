/- The reference's Set is the program's; counts are the same. No conditions beyond those that the lemmas name. -/
import Derived.Test.YtjgkfnbfjamccaaPx0
import Derived.Test.YtjgkfnbfjamccaaPx9
import Derived.Test.YtjgkfnbfjamccaaPx10
import Derived.Test.YtjgkfnbfjamccaaPx12
import Derived.Test.YtjgkfnbfjamccaaPx13
import Derived.Test.YtjgkfnbfjamccaaPx14
import Derived.Test.YtjgkfnbfjamccaaPx15
import Derived.Test.YtjgkfnbfjamccaaPx16
import Derived.Test.YtjgkfnbfjamccaaRegAr
namespace Go.Proofs.Ytjgkfnbfjamccaa.Reg
open Go.RowKit Go.Proofs.YtjgkfnbfjamccaaW.PrintWords Go.Proofs.YtjgkfnbfjamccaaW.PrintLast Go.Proofs.YtjgkfnbfjamccaaW.PrintMore Go.Proofs.Ytjgkfnbfjamccaa.P

theorem put_no (l : List S26) (a b st : Int) (h : b ≤ a) : salvorref16_put.f l a b st = some l := by
  unfold salvorref16_put.f
  rw [if_pos h]
theorem put_eq {l : List S26} (h : mayL 0 none l = true) {E : Int} (hE : endOf 0 l = E) (q st : Int) (hq : q ≤ 1099511627776) (hp : E < q) : salvorref16_put.f l E q st = some (addP l E (q - E) st) := by
  have hb := mayL_end h (by omega)
  rw [hE] at hb
  unfold salvorref16_put.f
  rw [if_neg (by omega), wrap_in (x := q - E) (by omega) (by omega)]
  rcases snoc_cases l with rfl | ⟨a, r, rfl⟩
  · rw [addP_nil, if_neg (show ¬ q - E < 1 by omega), if_neg (by simp), if_pos (by simp)]
    rfl
  · obtain ⟨g1, g2, g3, g4, g5, g6, _, _⟩ := may_snoc h (by omega) (by omega)
    rw [hE] at g4
    have hlen : (a.length : Int) + 1 ≤ 1099511627776 := by
      simp only [List.length_append, List.length_cons, List.length_nil] at hb; omega
    have e1 : ((a ++ [r]).length : Int) = (a.length : Int) + 1 := by simp
    rw [addP_snoc, if_neg (show ¬ q - E < 1 by omega), e1, if_pos (by omega), wrap_in (x := (a.length : Int) + 1 - 1) (by omega) (by omega), show (a.length : Int) + 1 - 1 = a.length from by omega, if_pos (by omega), if_pos (by omega), rd_last]
    by_cases c2 : r.f2 = st
    · rw [if_pos c2, if_pos c2, wrap_in (x := r.f1 + (q - E)) (by omega) (by omega)]
      simp
    · rw [if_neg c2, if_neg c2, if_pos (by simp only [List.length_append, List.length_cons, List.length_nil]; omega)]
theorem addP_none (l : List S26) (p n st : Int) (h : n < 1) : addP l p n st = l := by
  unfold addP
  rw [if_pos h]

theorem refset_ev (l : List S26) (hl : mayL 0 none l = true) (f t st : Int) (hft : f ≤ t) (hs : isS st = true) : ∀ (rs : List S26) (i : Nat) (out : List S26) (p : Option Int) (E : Int), l.drop i = rs → mayL 0 none out = true → endOf 0 out = E → 0 ≤ E → E ≤ 1099511627776 → mayL E p rs = true →
    Ev (fun k => salvorref16_Set.l0 k l st f t out (i : Int)) (setL f t st out rs) := by
  have hlen := (mayL_end hl (by omega))
  intro rs
  induction rs with
  | nil =>
    intro i out p E h hm hE h0 h1 hr
    have hge := drop_nil_ge h
    refine Ev.step (f := fun _ => some out) (fun k => ?_) (Ev.now _)
    simp only [salvorref16_Set.l0]
    rw [if_neg (by omega)]
  | cons r rs ih =>
    intro i out p E h hm hE h0 h1 hr
    have hlt := drop_lt h
    have hn := drop_succ h
    have hrd := rd_at l i r rs h
    obtain ⟨g1, g2, g3, g4, g5, g6⟩ := mayL_cons hr
    obtain rfl := g1
    obtain ⟨q1, q2, q3, m3, E3, s3⟩ := round_may (f := f) (t := t) (st := st) hm hE g2 (by omega) g4 hs hft
    obtain ⟨ca0, ca1, ca2⟩ := clamp f r.f0 (r.f0 + r.f1) (by omega)
    obtain ⟨cb0, cb1, cb2⟩ := clamp t r.f0 (r.f0 + r.f1) (by omega)
    have cab := clamp_le f t r.f0 (r.f0 + r.f1) hft
    obtain ⟨m1, n1, _⟩ := addP_may hm hE (n := mn (mx f r.f0) (r.f0 + r.f1) - r.f0) (st := r.f2) (fun _ => g4) (by omega)
    have E1 : endOf 0 (addP out r.f0 (mn (mx f r.f0) (r.f0 + r.f1) - r.f0) r.f2) = mn (mx f r.f0) (r.f0 + r.f1) := by rw [n1]; split <;> omega
    obtain ⟨m2, n2, _⟩ := addP_may m1 E1 (n := mn (mx t r.f0) (r.f0 + r.f1) - mn (mx f r.f0) (r.f0 + r.f1)) (st := st) (fun _ => hs) (by omega)
    have E2 : endOf 0 (addP (addP out r.f0 (mn (mx f r.f0) (r.f0 + r.f1) - r.f0) r.f2) (mn (mx f r.f0) (r.f0 + r.f1)) (mn (mx t r.f0) (r.f0 + r.f1) - mn (mx f r.f0) (r.f0 + r.f1)) st) = mn (mx t r.f0) (r.f0 + r.f1) := by rw [n2]; split <;> omega
    have u1 := mx_ge f r.f0
    have u2 := mx_ge r.f0 f
    have u3 := mn_le (mx f r.f0) (r.f0 + r.f1)
    have u4 := mn_le (r.f0 + r.f1) f
    have u5 := mx_ge t r.f0
    have u6 := mx_ge r.f0 t
    have u7 := mn_le (mx t r.f0) (r.f0 + r.f1)
    have u8 := mn_le (r.f0 + r.f1) t
    have w1 : salvorref16_put.f out r.f0 (mn (r.f0 + r.f1) f) r.f2 = some (addP out r.f0 (mn (mx f r.f0) (r.f0 + r.f1) - r.f0) r.f2) := by
      by_cases c : r.f0 < mn (r.f0 + r.f1) f
      · have : mn (mx f r.f0) (r.f0 + r.f1) = mn (r.f0 + r.f1) f := by omega
        rw [this]
        exact put_eq hm hE _ _ (by have := mn_le (r.f0 + r.f1) f; omega) c
      · have : mn (mx f r.f0) (r.f0 + r.f1) = r.f0 := by omega
        rw [put_no _ _ _ _ (by omega), addP_none _ _ _ _ (by omega)]
    have w2 : salvorref16_put.f (addP out r.f0 (mn (mx f r.f0) (r.f0 + r.f1) - r.f0) r.f2) (mx r.f0 f) (mn (r.f0 + r.f1) t) st = some (addP (addP out r.f0 (mn (mx f r.f0) (r.f0 + r.f1) - r.f0) r.f2) (mn (mx f r.f0) (r.f0 + r.f1)) (mn (mx t r.f0) (r.f0 + r.f1) - mn (mx f r.f0) (r.f0 + r.f1)) st) := by
      by_cases c : mx r.f0 f < mn (r.f0 + r.f1) t
      · have e1 : mn (mx f r.f0) (r.f0 + r.f1) = mx r.f0 f := by omega
        have e2 : mn (mx t r.f0) (r.f0 + r.f1) = mn (r.f0 + r.f1) t := by omega
        rw [e1, e2]
        rw [e1] at m1 E1
        exact put_eq m1 E1 _ _ (by have := mn_le (r.f0 + r.f1) t; omega) c
      · have e1 : mn (mx t r.f0) (r.f0 + r.f1) = mn (mx f r.f0) (r.f0 + r.f1) := by omega
        have z : mn (mx t r.f0) (r.f0 + r.f1) - mn (mx f r.f0) (r.f0 + r.f1) < 1 := by omega
        rw [put_no _ _ _ _ (by omega), addP_none _ _ _ st z]
    have w3 : salvorref16_put.f (addP (addP out r.f0 (mn (mx f r.f0) (r.f0 + r.f1) - r.f0) r.f2) (mn (mx f r.f0) (r.f0 + r.f1)) (mn (mx t r.f0) (r.f0 + r.f1) - mn (mx f r.f0) (r.f0 + r.f1)) st) (mx r.f0 t) (r.f0 + r.f1) r.f2 = some (addP (addP (addP out r.f0 (mn (mx f r.f0) (r.f0 + r.f1) - r.f0) r.f2) (mn (mx f r.f0) (r.f0 + r.f1)) (mn (mx t r.f0) (r.f0 + r.f1) - mn (mx f r.f0) (r.f0 + r.f1)) st) (mn (mx t r.f0) (r.f0 + r.f1)) (r.f0 + r.f1 - mn (mx t r.f0) (r.f0 + r.f1)) r.f2) := by
      by_cases c : mx r.f0 t < r.f0 + r.f1
      · have e1 : mn (mx t r.f0) (r.f0 + r.f1) = mx r.f0 t := by omega
        rw [e1]
        rw [e1] at m2 E2
        exact put_eq m2 E2 _ _ (by omega) c
      · have e1 : mn (mx t r.f0) (r.f0 + r.f1) = r.f0 + r.f1 := by omega
        have z : r.f0 + r.f1 - mn (mx t r.f0) (r.f0 + r.f1) < 1 := by omega
        rw [put_no _ _ _ _ (by omega), addP_none _ _ _ r.f2 z]
    have i1 := ih (i + 1) _ _ (r.f0 + r.f1) hn m3 E3 (by omega) (by omega) g6
    refine Ev.step (f := fun k => salvorref16_Set.l0 k l st f t (addP (addP (addP out r.f0 (mn (mx f r.f0) (r.f0 + r.f1) - r.f0) r.f2) (mn (mx f r.f0) (r.f0 + r.f1)) (mn (mx t r.f0) (r.f0 + r.f1) - mn (mx f r.f0) (r.f0 + r.f1)) st) (mn (mx t r.f0) (r.f0 + r.f1)) (r.f0 + r.f1 - mn (mx t r.f0) (r.f0 + r.f1)) r.f2) ((i : Int) + 1)) (fun k => ?_) (by rw [show ((i : Int) + 1) = ((i + 1 : Nat) : Int) from by omega]; exact i1)
    simp only [salvorref16_Set.l0]
    rw [if_pos (by omega), if_pos (by omega), hrd, wrap_in (x := r.f0 + r.f1) (by omega) (by omega), w1]
    simp only [Option.bind_some]
    rw [w2]
    simp only [Option.bind_some]
    rw [w3]
    simp only [Option.bind_some]
    rw [wrap_in (x := (i : Int) + 1) (by omega) (by omega)]

theorem refset_may {l : List S26} (hl : mayL 0 none l = true) {pos n st : Int} (hp : 0 ≤ pos) (hn : 0 ≤ n) (hs : isS st = true) :
    Ev (fun k => salvorref16_Set.f k l pos n st) (setM l pos n st) := by
  have hb := mayL_end hl (by omega)
  have h1 := mn_le pos (endOf 0 l)
  have h2 := mn_le n (endOf 0 l - mn pos (endOf 0 l))
  have e1 := refset_ev l hl (mn pos (endOf 0 l)) (mn pos (endOf 0 l) + mn n (endOf 0 l - mn pos (endOf 0 l))) st (by omega) hs l 0 [] none 0 rfl rfl rfl (by omega) (by omega) hl
  unfold salvorref16_Set.f
  refine Ev.bind (mayref l (by omega)) ?_
  rw [hl]
  simp only [if_true]
  rw [show (fun k => if pos < 0 then salvorref16_Set.j0 k l pos n st true else if n < 0 then salvorref16_Set.j0 k l pos n st true else (salvorref16_status.f st).bind fun t205 => salvorref16_Set.j0 k l pos n st (!t205)) = fun k => salvorref16_Set.j0 k l pos n st false from by
    funext k
    rw [if_neg (by omega), if_neg (by omega), status_eq, hs]
    rfl]
  refine Ev.step (f := fun k => (salvorref16_End.f k l).bind fun t209 => salvorref16_Set.l0 k l st (mn pos t209) (wrap64 ((mn pos t209) + (mn n (wrap64 (t209 - (mn pos t209)))))) [] 0) (fun k => ?_) (Ev.bind (endref_ev l (by omega)) ?_)
  · simp only [salvorref16_Set.j0, Bool.false_eq_true, if_false]
  · rw [hl]
    simp only [if_true]
    rw [wrap_in (x := endOf 0 l - mn pos (endOf 0 l)) (by omega) (by omega), wrap_in (x := mn pos (endOf 0 l) + mn n (endOf 0 l - mn pos (endOf 0 l))) (by omega) (by omega)]
    exact e1
theorem refset_no {l : List S26} (hlen : l.length ≤ 1000000) {pos n st : Int} (h : mayL 0 none l = false ∨ pos < 0 ∨ n < 0 ∨ isS st = false) : Ev (fun k => salvorref16_Set.f k l pos n st) l := by
  have hj : Ev (fun k => salvorref16_Set.j0 k l pos n st true) l := by
    refine Ev.step (f := fun _ => some l) (fun k => ?_) (Ev.now _)
    simp only [salvorref16_Set.j0, if_true, List.length_nil, List.nil_append]
    rw [if_pos (by omega)]
  unfold salvorref16_Set.f
  refine Ev.bind (mayref l (by omega)) ?_
  cases hm : mayL 0 none l with
  | false => simpa using hj
  | true =>
    simp only [if_true]
    by_cases c1 : pos < 0
    · simpa [c1] using hj
    · by_cases c2 : n < 0
      · simpa [c1, c2] using hj
      · have : isS st = false := by simp_all
        simp only [c1, c2, if_false, status_eq, this, Option.bind_some, Bool.not_false]
        exact hj

/-! ### counting -/
theorem rdI_at (l : List Int) (i : Nat) (r : Int) (t : List Int) (h : l.drop i = r :: t) : rd l (i : Int) = r := by
  unfold rd
  have h1 : l[i]? = some r := by
    have := List.getElem?_drop (xs := l) (i := i) (j := 0)
    rw [h] at this
    simpa using this.symm
  simp [List.getD, h1]
theorem index_ev (l : List Int) (hl : l.length ≤ 4611686018427387904) (x : Int) : ∀ (t : List Int) (i : Nat), l.drop i = t → ∃ r, Ev (fun k => slices_Index_byte_byte.l0 k l x (l.length : Int) (i : Int)) r ∧ (decide (r ≥ 0)) = t.contains x := by
  intro t
  induction t with
  | nil =>
    intro i h
    have hge := drop_nil_ge h
    refine ⟨-1, Ev.step (f := fun _ => some (-1)) (fun k => ?_) (Ev.now _), by simp⟩
    simp only [slices_Index_byte_byte.l0]
    rw [if_neg (by omega)]
  | cons q t ih =>
    intro i h
    have hlt := drop_lt h
    have hr := rdI_at l i q t h
    by_cases c : x = q
    · refine ⟨i, Ev.step (f := fun _ => some (i : Int)) (fun k => ?_) (Ev.now _), by simp [c]⟩
      simp only [slices_Index_byte_byte.l0]
      rw [if_pos (by omega), if_pos (by omega), if_pos (by omega), hr, if_pos c]
    · obtain ⟨r, h1, h2⟩ := ih (i + 1) (drop_succ h)
      refine ⟨r, Ev.step (f := fun k => slices_Index_byte_byte.l0 k l x (l.length : Int) ((i + 1 : Nat) : Int)) (fun k => ?_) h1, by rw [h2]; simp [c]⟩
      simp only [slices_Index_byte_byte.l0]
      rw [if_pos (by omega), if_pos (by omega), if_pos (by omega), hr, if_neg c, wrap_in (x := (i : Int) + 1) (by omega) (by omega)]
      rfl
theorem contains_ev (l : List Int) (hl : l.length ≤ 4611686018427387904) (x : Int) : Ev (fun k => slices_Contains_byte_byte.f k l x) (l.contains x) := by
  obtain ⟨r, h1, h2⟩ := index_ev l hl x l 0 rfl
  unfold slices_Contains_byte_byte.f slices_Index_byte_byte.f
  refine Ev.bind h1 ?_
  rw [h2]
  exact Ev.now _

/-- The sum of the sizes, as the code reckons. -/
def cntL (ss : List Int) (n : Int) : List S26 → Int
  | [] => n
  | r :: t => cntL ss (if ss = [] ∨ ss.contains r.f2 = true then wrap64 (n + r.f1) else n) t
theorem count_ev' (l : List S26) (hl : l.length ≤ 4611686018427387904) (ss : List Int) (hss : ss.length ≤ 4611686018427387904) : ∀ (t : List S26) (i : Nat) (n : Int), l.drop i = t → Ev (fun k => region_Count.l0 k ss n l (l.length : Int) (i : Int)) (cntL ss n t) := by
  intro t
  induction t with
  | nil =>
    intro i n h
    have hge := drop_nil_ge h
    refine Ev.step (f := fun _ => some n) (fun k => ?_) (Ev.now _)
    simp only [region_Count.l0]
    rw [if_neg (by omega)]
  | cons r t ih =>
    intro i n h
    have hlt := drop_lt h
    have hr := rd_at l i r t h
    have hi := ih (i + 1)
    by_cases c : ss = []
    · refine Ev.step (f := fun k => region_Count.l0 k ss (wrap64 (n + r.f1)) l (l.length : Int) ((i + 1 : Nat) : Int)) (fun k => ?_) ?_
      · simp only [region_Count.l0]
        rw [if_pos (by omega), if_pos (by omega), if_pos (by omega), hr, if_pos (by simp [c]), wrap_in (x := (i : Int) + 1) (by omega) (by omega)]
        rfl
      · rw [cntL, if_pos (.inl c)]
        exact hi _ (drop_succ h)
    · have hne : ¬ (ss.length : Int) = 0 := by
        have : ss.length ≠ 0 := by simpa using c
        omega
      refine Ev.step (f := fun k => (slices_Contains_byte_byte.f k ss r.f2).bind fun b => if b = true then region_Count.l0 k ss (wrap64 (n + r.f1)) l (l.length : Int) ((i + 1 : Nat) : Int) else region_Count.l0 k ss n l (l.length : Int) ((i + 1 : Nat) : Int)) (fun k => ?_) (Ev.bind (contains_ev ss hss r.f2) ?_)
      · simp only [region_Count.l0]
        rw [if_pos (by omega), if_pos (by omega), if_pos (by omega), hr, if_neg hne, wrap_in (x := (i : Int) + 1) (by omega) (by omega)]
        rfl
      · rw [cntL]
        cases hc : ss.contains r.f2 with
        | true => simp only [if_true, or_true]; exact hi _ (drop_succ h)
        | false => simp only [c, Bool.false_eq_true, if_false, or_self]; exact hi _ (drop_succ h)
theorem count_ev (l : List S26) (hl : l.length ≤ 4611686018427387904) (ss : List Int) (hss : ss.length ≤ 4611686018427387904) : Ev (fun k => region_Count.f k l ss) (if mayL 0 none l = true then cntL ss 0 l else 0) := by
  unfold region_Count.f
  refine Ev.bind (may l hl) ?_
  cases hm : mayL 0 none l with
  | false => exact Ev.now _
  | true => simp only [if_true]; exact count_ev' l hl ss hss l 0 0 rfl

theorem countref_in (l : List S26) (hl : l.length ≤ 4611686018427387904) (ss : List Int) (hss : ss.length ≤ 4611686018427387904) (n : Int) (i : Nat) (r : S26) (t : List S26) (h : l.drop i = r :: t) (R : Int)
    (hR : Ev (fun k => salvorref16_Count.l0 k l ss (if ss = [] ∨ ss.contains r.f2 = true then wrap64 (n + r.f1) else n) ((i + 1 : Nat) : Int)) R) : ∀ (u : List Int) (j : Nat) (b : Bool), ss.drop j = u → (b || u.contains r.f2) = (decide (ss = []) || ss.contains r.f2) → Ev (fun k => salvorref16_Count.l1 k l ss n (i : Int) b (j : Int)) R := by
  have hlt := drop_lt h
  have hr := rd_at l i r t h
  intro u
  induction u with
  | nil =>
    intro j b hj hb
    have hge := drop_nil_ge hj
    refine Ev.step (f := fun k => salvorref16_Count.l0 k l ss (if ss = [] ∨ ss.contains r.f2 = true then wrap64 (n + r.f1) else n) ((i + 1 : Nat) : Int)) (fun k => ?_) hR
    simp only [salvorref16_Count.l1]
    rw [if_neg (by omega), wrap_in (x := (i : Int) + 1) (by omega) (by omega)]
    simp only [List.contains_nil, Bool.or_false] at hb
    cases b with
    | true =>
      have hc : ss = [] ∨ ss.contains r.f2 = true := by simpa using hb.symm
      rw [if_pos rfl, if_pos (by omega), if_pos (by omega), hr, if_pos hc]
      rfl
    | false =>
      have hc : ¬ (ss = [] ∨ ss.contains r.f2 = true) := by
        intro hh
        have : (decide (ss = []) || ss.contains r.f2) = true := by simpa using hh
        rw [this] at hb
        exact absurd hb (by decide)
      rw [if_neg (by decide), if_neg hc]
      rfl
  | cons q u ih =>
    intro j b hj hb
    have hjl := drop_lt hj
    have hq := rdI_at ss j q u hj
    cases b with
    | true =>
      refine Ev.step (f := fun k => salvorref16_Count.l1 k l ss n (i : Int) true ((j + 1 : Nat) : Int)) (fun k => ?_) (ih (j + 1) true (drop_succ hj) (by simpa using hb))
      simp only [salvorref16_Count.l1]
      rw [if_pos (by omega), if_pos trivial, wrap_in (x := (j : Int) + 1) (by omega) (by omega)]
      rfl
    | false =>
      refine Ev.step (f := fun k => salvorref16_Count.l1 k l ss n (i : Int) (q == r.f2) ((j + 1 : Nat) : Int)) (fun k => ?_) (ih (j + 1) (q == r.f2) (drop_succ hj) ?_)
      · simp only [salvorref16_Count.l1]
        rw [if_pos (by omega), if_neg (by decide), if_pos (by omega), if_pos (by omega), if_pos (by omega), hr, hq, wrap_in (x := (j : Int) + 1) (by omega) (by omega)]
        rfl
      · rw [← hb, Bool.false_or, List.contains_cons]
        congr 1
        rw [Bool.eq_iff_iff]
        simp only [beq_iff_eq]
        exact ⟨Eq.symm, Eq.symm⟩
theorem countref_ev' (l : List S26) (hm : mayL 0 none l = true) (ss : List Int) (hss : ss.length ≤ 4611686018427387904) : ∀ (t : List S26) (i : Nat) (n : Int), l.drop i = t → Ev (fun k => salvorref16_Count.l0 k l ss n (i : Int)) (cntL ss n t) := by
  have hb := mayL_end hm (by omega)
  intro t
  induction t with
  | nil =>
    intro i n h
    have hge := drop_nil_ge h
    refine Ev.step (f := fun k => salvorref16_Count.j1 k l ss n (i : Int) false) (fun k => ?_) (Ev.step (f := fun _ => some n) (fun k => ?_) (Ev.now _))
    · simp only [salvorref16_Count.l0]
      rw [if_neg (by omega)]
    · simp [salvorref16_Count.j1]
  | cons r t ih =>
    intro i n h
    have hlt := drop_lt h
    refine Ev.step (f := fun k => (salvorref16_MayRegions.f k l).bind fun b => salvorref16_Count.j1 k l ss n (i : Int) b) (fun k => ?_) (Ev.bind (mayref l (by omega)) ?_)
    · simp only [salvorref16_Count.l0]
      rw [if_pos (by omega)]
    · rw [hm]
      refine Ev.step (f := fun k => salvorref16_Count.l1 k l ss n (i : Int) ((ss.length : Int) == 0) ((0 : Nat) : Int)) (fun k => ?_) ?_
      · simp only [salvorref16_Count.j1, if_true]
        rfl
      · rw [cntL]
        refine countref_in l (by omega) ss hss n i r t h _ (ih (i + 1) _ (drop_succ h)) ss 0 _ rfl ?_
        cases ss with
        | nil => rfl
        | cons a b =>
          have : ((((a :: b).length : Nat) : Int) == 0) = false := by
            rw [beq_eq_false_iff_ne]
            simp only [List.length_cons]
            omega
          rw [this]
          simp
theorem countref_ev (l : List S26) (hl : l.length ≤ 4611686018427387904) (ss : List Int) (hss : ss.length ≤ 4611686018427387904) : Ev (fun k => salvorref16_Count.f k l ss) (if mayL 0 none l = true then cntL ss 0 l else 0) := by
  unfold salvorref16_Count.f
  cases hm : mayL 0 none l with
  | true => simp only [if_true]; exact countref_ev' l hm ss hss l 0 0 rfl
  | false =>
    simp only [Bool.false_eq_true, if_false]
    have hj : Ev (fun k => salvorref16_Count.j1 k l ss 0 0 false) 0 := Ev.step (f := fun _ => some 0) (fun k => by simp [salvorref16_Count.j1]) (Ev.now _)
    by_cases c : 0 < (l.length : Int)
    · refine Ev.step (f := fun k => (salvorref16_MayRegions.f k l).bind fun b => salvorref16_Count.j1 k l ss 0 0 b) (fun k => ?_) (Ev.bind (mayref l hl) (by rw [hm]; exact hj))
      simp only [salvorref16_Count.l0]
      rw [if_pos c]
    · refine Ev.step (f := fun k => salvorref16_Count.j1 k l ss 0 0 false) (fun k => ?_) hj
      simp only [salvorref16_Count.l0]
      rw [if_neg c]
end Go.Proofs.Ytjgkfnbfjamccaa.Reg
