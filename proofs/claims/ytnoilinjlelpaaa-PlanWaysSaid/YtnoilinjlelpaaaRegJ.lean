/- What the region of a place, the first and the last region of a status are, place by place. No conditions beyond those that the lemmas name. -/
import Derived.Test.YtnoilinjlelpaaaPx0
import Derived.Test.YtnoilinjlelpaaaPx8
import Derived.Test.YtnoilinjlelpaaaRegD
namespace Go.Proofs.Ytnoilinjlelpaaa.Reg
open Go.RowKit Go.Proofs.YtnoilinjlelpaaaW.PrintWords Go.Proofs.YtnoilinjlelpaaaW.PrintLast Go.Proofs.YtnoilinjlelpaaaW.PrintMore Go.Proofs.Ytnoilinjlelpaaa.P

theorem atL_st {e : Int} {p : Option Int} {l : List S33} (h : mayL e p l = true) (he : e ≤ 1099511627776) (x : Int) (h0 : e ≤ x) (h1 : x < endOf e l) : ∃ a b s, atL x l = (a, b, s, true) ∧ stAt e l x = some s ∧ a ≤ x ∧ x < a + b := by
  induction l generalizing e p with
  | nil => simp only [endOf] at h1; omega
  | cons r t ih =>
    obtain ⟨g1, g2, g3, g4, g5, g6⟩ := mayL_cons h
    have h1' : x < endOf (e + r.f1) t := h1
    have hge := mayL_end g6 (by omega)
    simp only [atL, stAt]
    by_cases c : x < e + r.f1
    · rw [if_pos (by omega), if_neg (by omega), if_pos c]
      exact ⟨_, _, _, rfl, rfl, by omega, by omega⟩
    · rw [if_neg (by omega), if_neg (by omega), if_neg c]
      exact ih g6 (by omega) (by omega) h1'
theorem atL_no {e : Int} {p : Option Int} {l : List S33} (h : mayL e p l = true) (he : e ≤ 1099511627776) (x : Int) (h1 : endOf e l ≤ x) : atL x l = (0, 0, 0, false) := by
  induction l generalizing e p with
  | nil => rfl
  | cons r t ih =>
    obtain ⟨g1, g2, g3, g4, g5, g6⟩ := mayL_cons h
    have h1' : endOf (e + r.f1) t ≤ x := h1
    have hge := mayL_end g6 (by omega)
    simp only [atL]
    rw [if_neg (by omega)]
    exact ih g6 (by omega) h1'

theorem firstL_st {e : Int} {p : Option Int} {l : List S33} (h : mayL e p l = true) (he : e ≤ 1099511627776) (st x : Int) :
    (∃ a b, firstL st x l = (a, b, st, true) ∧ x ≤ a ∧ e ≤ a ∧ 0 < b ∧ a + b ≤ 1099511627776 ∧ (∀ y, a ≤ y → y < a + b → stAt e l y = some st) ∧ ∀ y, x ≤ y → stAt e l y = some st → a ≤ y) ∨
    (firstL st x l = (0, 0, 0, false) ∧ ∀ y, x ≤ y → stAt e l y ≠ some st) := by
  induction l generalizing e p with
  | nil => exact .inr ⟨rfl, fun y _ => by simp [stAt]⟩
  | cons r t ih =>
    obtain ⟨g1, g2, g3, g4, g5, g6⟩ := mayL_cons h
    have hge := mayL_end g6 (by omega)
    have hmx := mx_ge r.f0 x
    simp only [firstL]
    by_cases c : r.f2 = st ∧ x < r.f0 + r.f1
    · rw [if_pos c]
      refine .inl ⟨_, _, rfl, by omega, by omega, by omega, by omega, fun y h0 h1 => ?_, fun y h0 h1 => ?_⟩
      · simp only [stAt]
        rw [if_neg (by omega), if_pos (by omega), c.1]
      · simp only [stAt] at h1
        by_cases d : y < e
        · rw [if_pos d] at h1; cases h1
        · omega
    · rw [if_neg c]
      rcases ih g6 (by omega) with ⟨a, b, q1, q2, q3, q4, q5, q6, q7⟩ | ⟨q1, q2⟩
      · refine .inl ⟨a, b, q1, q2, by omega, q4, q5, fun y h0 h1 => ?_, fun y h0 h1 => ?_⟩
        · simp only [stAt]
          rw [if_neg (by omega), if_neg (by omega)]
          exact q6 y h0 h1
        · simp only [stAt] at h1
          by_cases d : y < e
          · rw [if_pos d] at h1; cases h1
          · rw [if_neg d] at h1
            by_cases d2 : y < e + r.f1
            · rw [if_pos d2] at h1
              exact absurd ⟨Option.some.inj h1, by omega⟩ c
            · rw [if_neg d2] at h1
              exact q7 y h0 h1
      · refine .inr ⟨q1, fun y h0 h1 => ?_⟩
        simp only [stAt] at h1
        by_cases d : y < e
        · rw [if_pos d] at h1; cases h1
        · rw [if_neg d] at h1
          by_cases d2 : y < e + r.f1
          · rw [if_pos d2] at h1
            exact absurd ⟨Option.some.inj h1, by omega⟩ c
          · rw [if_neg d2] at h1
            exact q2 y h0 h1

/-- The status of a place, by the region's number. -/
theorem stAt_rd {l : List S33} (h : mayL 0 none l = true) (y : Int) (s : Int) (hy : stAt 0 l y = some s) : ∃ i : Nat, i < l.length ∧ (rd_T33 l i).f0 ≤ y ∧ y < (rd_T33 l i).f0 + (rd_T33 l i).f1 ∧ (rd_T33 l i).f2 = s := by
  have go : ∀ (t : List S33) (e : Int) (p : Option Int) (i : Nat), l.drop i = t → mayL e p t = true → e ≤ 1099511627776 → stAt e t y = some s → ∃ i : Nat, i < l.length ∧ (rd_T33 l i).f0 ≤ y ∧ y < (rd_T33 l i).f0 + (rd_T33 l i).f1 ∧ (rd_T33 l i).f2 = s := by
    intro t
    induction t with
    | nil => intro e p i _ _ _ h; simp [stAt] at h
    | cons r t ih =>
      intro e p i hd hm he hs
      obtain ⟨g1, g2, g3, g4, g5, g6⟩ := mayL_cons hm
      have hr := rd_at l i r t hd
      simp only [stAt] at hs
      by_cases d : y < e
      · rw [if_pos d] at hs; cases hs
      · rw [if_neg d] at hs
        by_cases d2 : y < e + r.f1
        · rw [if_pos d2] at hs
          exact ⟨i, drop_lt hd, by rw [hr]; omega, by rw [hr]; omega, by rw [hr]; exact Option.some.inj hs⟩
        · rw [if_neg d2] at hs
          exact ih (e + r.f1) _ (i + 1) (drop_succ hd) g6 (by omega) hs
  exact go l 0 none 0 rfl h (by omega) hy
theorem rd_stAt {l : List S33} (h : mayL 0 none l = true) (i : Nat) (hi : i < l.length) (y : Int) (h0 : (rd_T33 l i).f0 ≤ y) (h1 : y < (rd_T33 l i).f0 + (rd_T33 l i).f1) : stAt 0 l y = some (rd_T33 l i).f2 := by
  have go : ∀ (t : List S33) (e : Int) (p : Option Int) (j : Nat), l.drop j = t → j ≤ i → mayL e p t = true → e ≤ 1099511627776 → stAt e t y = some (rd_T33 l i).f2 := by
    intro t
    induction t with
    | nil =>
      intro e p j hd hj _ _
      have := drop_nil_ge hd
      omega
    | cons r t ih =>
      intro e p j hd hj hm he
      obtain ⟨g1, g2, g3, g4, g5, g6⟩ := mayL_cons hm
      have hr := rd_at l j r t hd
      simp only [stAt]
      by_cases hji : j = i
      · subst hji
        rw [hr] at h0 h1 ⊢
        rw [if_neg (by omega), if_pos (by omega)]
      · have hmem : rd_T33 l i ∈ t := by
          have h2 : l[i]? = t[i - (j + 1)]? := by
            rw [← drop_succ hd, List.getElem?_drop]
            congr 1
            omega
          have h3 : t[i - (j + 1)]? = some (rd_T33 l i) := by
            rw [← h2]
            unfold rd_T33
            simp [List.getD, hi]
          exact List.mem_of_getElem? h3
        have hm2 := may_mem g6 (by omega) _ hmem
        rw [if_neg (by omega), if_neg (by omega)]
        exact ih (e + r.f1) _ (j + 1) (drop_succ hd) (by omega) g6 (by omega)
  exact go l 0 none 0 rfl (Nat.zero_le _) h (by omega)
theorem rd_order {l : List S33} (h : mayL 0 none l = true) : ∀ (j i : Nat), i < j → j < l.length → (rd_T33 l i).f0 + (rd_T33 l i).f1 ≤ (rd_T33 l j).f0 := by
  have go : ∀ (t : List S33) (e : Int) (p : Option Int) (k : Nat), l.drop k = t → mayL e p t = true → e ≤ 1099511627776 → ∀ (j i : Nat), k ≤ i → i < j → j < l.length → (rd_T33 l i).f0 + (rd_T33 l i).f1 ≤ (rd_T33 l j).f0 := by
    intro t
    induction t with
    | nil =>
      intro e p k hd _ _ j i h1 h2 h3
      have := drop_nil_ge hd
      omega
    | cons r t ih =>
      intro e p k hd hm he j i h1 h2 h3
      obtain ⟨g1, g2, g3, g4, g5, g6⟩ := mayL_cons hm
      have hr := rd_at l k r t hd
      by_cases hki : k = i
      · subst hki
        rw [hr]
        have hmem : rd_T33 l j ∈ t := by
          have h4 : l[j]? = t[j - (k + 1)]? := by
            rw [← drop_succ hd, List.getElem?_drop]
            congr 1
            omega
          have h5 : t[j - (k + 1)]? = some (rd_T33 l j) := by
            rw [← h4]
            unfold rd_T33
            simp [List.getD, h3]
          exact List.mem_of_getElem? h5
        have := may_mem g6 (by omega) _ hmem
        omega
      · exact ih (e + r.f1) _ (k + 1) (drop_succ hd) g6 (by omega) j i (by omega) h2 h3
  exact fun j i h2 h3 => go l 0 none 0 rfl h (by omega) j i (Nat.zero_le _) h2 h3

theorem lastG_st {l : List S33} (h : mayL 0 none l = true) (st x : Int) (hx : x ≤ 9223372036854775807) : ∀ n : Nat, n ≤ l.length →
    (∃ a b, region_Last.g l st x n = (a, b, st, true) ∧ 0 ≤ a ∧ 0 < b ∧ a + b ≤ x ∧ a + b ≤ 1099511627776 ∧ (∀ y, a ≤ y → y < a + b → stAt 0 l y = some st) ∧ ∀ (i : Nat) (y : Int), i < n → (rd_T33 l i).f2 = st → (rd_T33 l i).f0 ≤ y → y < (rd_T33 l i).f0 + (rd_T33 l i).f1 → y < x → y < a + b) ∨
    (region_Last.g l st x n = (0, 0, 0, false) ∧ ∀ (i : Nat) (y : Int), i < n → (rd_T33 l i).f2 = st → (rd_T33 l i).f0 ≤ y → y < (rd_T33 l i).f0 + (rd_T33 l i).f1 → ¬ y < x) := by
  intro n
  induction n with
  | zero => intro _; exact .inr ⟨rfl, fun i y h1 => by omega⟩
  | succ n ih =>
    intro hn
    have hm := may_mem h (by omega) (rd_T33 l n) (rd_mem (by omega))
    rw [region_Last.g]
    by_cases c : (rd_T33 l n).f2 = st ∧ (rd_T33 l n).f0 < x
    · rw [if_pos c, wrap_in (x := x - (rd_T33 l n).f0) (by omega) (by omega)]
      have hmn := mn_le (rd_T33 l n).f1 (x - (rd_T33 l n).f0)
      refine .inl ⟨_, _, rfl, by omega, by omega, by omega, by omega, fun y h0 h1 => ?_, fun i y h1 h2 h3 h4 h5 => ?_⟩
      · have := rd_stAt h n (by omega) y h0 (by omega)
        rwa [c.1] at this
      · by_cases hin : i = n
        · subst hin; omega
        · have := rd_order h n i (by omega) (by omega)
          omega
    · rw [if_neg c]
      rcases ih (by omega) with ⟨a, b, q1, q2, q3, q4, q5, q6, q7⟩ | ⟨q1, q2⟩
      · refine .inl ⟨a, b, q1, q2, q3, q4, q5, q6, fun i y h1 h2 h3 h4 h5 => ?_⟩
        by_cases hin : i = n
        · subst hin; exact absurd ⟨h2, by omega⟩ c
        · exact q7 i y (by omega) h2 h3 h4 h5
      · refine .inr ⟨q1, fun i y h1 h2 h3 h4 h5 => ?_⟩
        by_cases hin : i = n
        · subst hin; exact absurd ⟨h2, by omega⟩ c
        · exact q2 i y (by omega) h2 h3 h4 h5
theorem last_st {l : List S33} (h : mayL 0 none l = true) (st x : Int) (hx : x ≤ 9223372036854775807) :
    (∃ a b, region_Last.g l st x l.length = (a, b, st, true) ∧ 0 ≤ a ∧ 0 < b ∧ a + b ≤ x ∧ a + b ≤ 1099511627776 ∧ (∀ y, a ≤ y → y < a + b → stAt 0 l y = some st) ∧ ∀ y, y < x → stAt 0 l y = some st → y < a + b) ∨
    (region_Last.g l st x l.length = (0, 0, 0, false) ∧ ∀ y, y < x → stAt 0 l y ≠ some st) := by
  rcases lastG_st h st x hx l.length (Nat.le_refl _) with ⟨a, b, q1, q2, q3, q4, q5, q6, q7⟩ | ⟨q1, q2⟩
  · refine .inl ⟨a, b, q1, q2, q3, q4, q5, q6, fun y h0 h1 => ?_⟩
    obtain ⟨i, i1, i2, i3, i4⟩ := stAt_rd h y st h1
    exact q7 i y i1 i4 i2 i3 h0
  · refine .inr ⟨q1, fun y h0 h1 => ?_⟩
    obtain ⟨i, i1, i2, i3, i4⟩ := stAt_rd h y st h1
    exact q2 i y i1 i4 i2 i3 h0
end Go.Proofs.Ytnoilinjlelpaaa.Reg
