/- Counts of places, and which kind of act is next, told by which statuses a map has. No conditions beyond those that the lemmas name. -/
import Derived.Test.YtnoilinjlelpaaaPx0
import Derived.Test.YtnoilinjlelpaaaRegHc
import Derived.Test.YtnoilinjlelpaaaPlanC
namespace Go.Proofs.Ytnoilinjlelpaaa.Reg
open Go.RowKit Go.Proofs.YtnoilinjlelpaaaW.PrintWords Go.Proofs.YtnoilinjlelpaaaW.PrintLast Go.Proofs.YtnoilinjlelpaaaW.PrintMore Go.Proofs.Ytnoilinjlelpaaa.P

theorem stAt_first {e : Int} {r : S33} {t : List S33} (h1 : 1 ≤ r.f1) : stAt e (r :: t) e = some r.f2 := by
  simp only [stAt]
  rw [if_neg (by omega), if_pos (by omega)]
theorem stAt_cons {e : Int} {r : S33} {t : List S33} {y s : Int} (h : stAt e (r :: t) y = some s) : s = r.f2 ∨ stAt (e + r.f1) t y = some s := by
  simp only [stAt] at h
  by_cases c : y < e
  · rw [if_pos c] at h; cases h
  · rw [if_neg c] at h
    by_cases d : y < e + r.f1
    · rw [if_pos d] at h; exact .inl (Option.some.inj h).symm
    · rw [if_neg d] at h; exact .inr h
theorem stAt_tail {e : Int} {p : Option Int} {r : S33} {t : List S33} {y s : Int} (hm : mayL e p (r :: t) = true) (_he : e ≤ 1099511627776) (h : stAt (e + r.f1) t y = some s) : stAt e (r :: t) y = some s := by
  obtain ⟨g1, g2, g3, g4, g5, g6⟩ := mayL_cons hm
  have : ¬ y < e + r.f1 := fun c => by
    rw [stAt_out g6 y (.inl c)] at h; cases h
  simp only [stAt]
  rw [if_neg (by omega), if_neg this]
  exact h
theorem cnt_spec (ss : List Int) (hss : ss ≠ []) : ∀ (l : List S33) (e : Int) (p : Option Int) (n : Int), mayL e p l = true → 0 ≤ e → e ≤ 1099511627776 → 0 ≤ n → n ≤ e →
    n ≤ cntL ss n l ∧ cntL ss n l ≤ n + (endOf e l - e) ∧ (n < cntL ss n l ↔ ∃ y s, stAt e l y = some s ∧ ss.contains s = true) ∧ (cntL ss n l = n + (endOf e l - e) ↔ ∀ y s, stAt e l y = some s → ss.contains s = true) := by
  intro l
  induction l with
  | nil =>
    intro e p n _ _ _ _ _
    refine ⟨Int.le_refl _, by simp [cntL, endOf], ⟨fun h => absurd h (by simp [cntL]), fun ⟨y, s, h, _⟩ => by simp [stAt] at h⟩, ⟨fun _ y s h => by simp [stAt] at h, fun _ => by simp [cntL, endOf]⟩⟩
  | cons r t ih =>
    intro e p n hm h0 he hn0 hne
    obtain ⟨g1, g2, g3, g4, g5, g6⟩ := mayL_cons hm
    have hE : endOf e (r :: t) = endOf (e + r.f1) t := rfl
    have hge := mayL_end g6 (by omega)
    rw [hE, cntL]
    cases hc : ss.contains r.f2 with
    | true =>
      rw [if_pos (.inr rfl), wrap_in (x := n + r.f1) (by omega) (by omega)]
      obtain ⟨i1, i2, i3, i4⟩ := ih (e + r.f1) _ (n + r.f1) g6 (by omega) (by omega) (by omega) (by omega)
      refine ⟨by omega, by omega, ⟨fun _ => ⟨e, r.f2, stAt_first g2, hc⟩, fun _ => by omega⟩, ⟨fun h y s hs => ?_, fun h => ?_⟩⟩
      · rcases stAt_cons hs with rfl | h2
        · exact hc
        · exact i4.1 (by omega) y s h2
      · have := i4.2 (fun y s h2 => h y s (stAt_tail hm he h2))
        omega
    | false =>
      rw [if_neg (by simp [hss])]
      obtain ⟨i1, i2, i3, i4⟩ := ih (e + r.f1) _ n g6 (by omega) (by omega) (by omega) (by omega)
      refine ⟨by omega, by omega, ⟨fun h => ?_, fun ⟨y, s, h1, h2⟩ => ?_⟩, ⟨fun h => by omega, fun h => ?_⟩⟩
      · obtain ⟨y, s, h1, h2⟩ := i3.1 h
        exact ⟨y, s, stAt_tail hm he h1, h2⟩
      · rcases stAt_cons h1 with rfl | h3
        · rw [hc] at h2; cases h2
        · exact i3.2 ⟨y, s, h3, h2⟩
      · have := h e r.f2 (stAt_first g2)
        rw [hc] at this; cases this
/-- Does the map have the status? -/
def has (l : List S33) (st : Int) : Prop := ∃ y, stAt 0 l y = some st
theorem cnt_has {l : List S33} (hl : mayL 0 none l = true) (st : Int) : cntL [st] 0 l > 0 ↔ has l st := by
  obtain ⟨_, _, h, _⟩ := cnt_spec [st] (by simp) l 0 none 0 hl (by omega) (by omega) (by omega) (by omega)
  rw [gt_iff_lt, h]
  constructor
  · rintro ⟨y, s, h1, h2⟩
    have : s = st := by simpa using h2
    exact ⟨y, this ▸ h1⟩
  · rintro ⟨y, h1⟩
    exact ⟨y, st, h1, by simp⟩
theorem cnt_all {l : List S33} (hl : mayL 0 none l = true) (ss : List Int) (hss : ss ≠ []) : cntL ss 0 l = endOf 0 l ↔ ∀ s, has l s → ss.contains s = true := by
  obtain ⟨_, _, _, h⟩ := cnt_spec ss hss l 0 none 0 hl (by omega) (by omega) (by omega) (by omega)
  rw [show (0 : Int) + (endOf 0 l - 0) = endOf 0 l by omega] at h
  rw [h]
  exact ⟨fun h s ⟨y, hy⟩ => h y s hy, fun h y s hy => h s ⟨y, hy⟩⟩
theorem has_is {l : List S33} (hl : mayL 0 none l = true) {s : Int} (h : has l s) : isS s = true := by
  obtain ⟨y, hy⟩ := h
  by_cases c : 0 ≤ y ∧ y < endOf 0 l
  · obtain ⟨s', h1, h2⟩ := stAt_in hl y c.1 c.2
    rw [hy] at h1
    cases h1
    exact h2
  · rw [stAt_out hl y (by omega)] at hy; cases hy
theorem has_seek {l : List S33} (hl : mayL 0 none l = true) (b : Bool) (st x : Int) (hx : x ≤ 9223372036854775807) (h : (seekD b l st x).2.2.2 = true) : has l st := by
  rcases seek_st hl b st x hx with ⟨p, n, e1, e2, e3, e4, e5, -⟩ | ⟨e1, -⟩
  · exact ⟨p, e5 p (by omega) (by omega)⟩
  · rw [e1] at h; cases h
theorem seek_has {l : List S33} (hl : mayL 0 none l = true) (b : Bool) (st : Int) : (seekD b l st (edgeD b l)).2.2.2 = true ↔ has l st := by
  have he := edge_range hl b
  refine ⟨has_seek hl b st _ (by omega), fun ⟨y, hy⟩ => ?_⟩
  have hr : 0 ≤ y ∧ y < endOf 0 l := by
    by_cases c : 0 ≤ y ∧ y < endOf 0 l
    · exact c
    · rw [stAt_out hl y (by omega)] at hy; cases hy
  rcases seek_st hl b st (edgeD b l) (by omega) with ⟨p, n, e1, -⟩ | ⟨e1, e2, e3⟩
  · rw [e1]
  · cases b with
    | true => exact absurd hy (e2 rfl y (by simp only [edgeD, if_true]; omega))
    | false => exact absurd hy (e3 rfl y (by simp only [edgeD, Bool.false_eq_true, if_false]; omega))
end Go.Proofs.Ytnoilinjlelpaaa.Reg
