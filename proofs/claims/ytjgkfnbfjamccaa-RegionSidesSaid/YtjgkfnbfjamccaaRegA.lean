/- Which regions may be, in plain Lean: the program's May and the reference's are one function of the list; what lies at its end. No conditions. -/
import Derived.Test.YtjgkfnbfjamccaaPx0
import Derived.Test.YtjgkfnbfjamccaaPx2
import Derived.Test.YtjgkfnbfjamccaaPx3
namespace Go.Proofs.Ytjgkfnbfjamccaa.Reg
open Go.RowKit Go.Proofs.YtjgkfnbfjamccaaW.PrintWords Go.Proofs.YtjgkfnbfjamccaaW.PrintLast Go.Proofs.YtjgkfnbfjamccaaW.PrintMore Go.Proofs.Ytjgkfnbfjamccaa.P

theorem wrap_in {x : Int} (h0 : -9223372036854775808 ≤ x) (h1 : x < 9223372036854775808) : wrap64 x = x := by unfold wrap64; omega

theorem i64_range {x : Int} (h : (Lit.int .i64 x).wf = true) : -9223372036854775808 ≤ x ∧ x ≤ 9223372036854775807 := by
  simp only [Lit.wf, Bool.and_eq_true, decide_eq_true_eq] at h
  exact h
theorem u8_range {x : Int} (h : (Lit.int .u8 x).wf = true) : 0 ≤ x ∧ x ≤ 255 := by
  simp only [Lit.wf, Bool.and_eq_true, decide_eq_true_eq] at h
  exact h

theorem rd_at (l : List S26) (i : Nat) (r : S26) (t : List S26) (h : l.drop i = r :: t) : rd_T26 l (i : Int) = r := by
  unfold rd_T26
  have h1 : l[i]? = some r := by
    have := List.getElem?_drop (xs := l) (i := i) (j := 0)
    rw [h] at this
    simpa using this.symm
  simp [List.getD, h1]
theorem drop_lt {α : Type} {l t : List α} {i : Nat} {r : α} (h : l.drop i = r :: t) : i < l.length := by
  have := congrArg List.length h
  simp at this
  omega
theorem drop_succ {α : Type} {l t : List α} {i : Nat} {r : α} (h : l.drop i = r :: t) : l.drop (i + 1) = t := by
  rw [← List.drop_drop, h]; rfl
theorem drop_nil_ge {α : Type} {l : List α} {i : Nat} (h : l.drop i = []) : l.length ≤ i := by
  simpa using h

/-- Is it a status? -/
def isS (c : Int) : Bool := c == 63 || c == 42 || c == 47 || c == 45 || c == 43
theorem is_eq (c : Int) : region_Is.f c = some (isS c) := by
  unfold region_Is.f isS
  by_cases h1 : c = 63 <;> by_cases h2 : c = 42 <;> by_cases h3 : c = 47 <;> by_cases h4 : c = 45 <;> by_cases h5 : c = 43 <;> simp_all
/-- The rest of regions, from a place on, behind one of a status. -/
def mayL (e : Int) (p : Option Int) : List S26 → Bool
  | [] => true
  | r :: t => decide (r.f0 = e) && decide (1 ≤ r.f1) && decide (r.f1 ≤ 1099511627776 - e) && isS r.f2 && decide (p ≠ some r.f2) && mayL (e + r.f1) (some r.f2) t

/-- The status ahead of an index. -/
def prev (l : List S26) (i : Nat) : Option Int := if i = 0 then none else some (rd_T26 l ((i : Int) - 1)).f2

theorem may_ev (l : List S26) (hl : l.length ≤ 4611686018427387904) : ∀ (t : List S26) (i : Nat) (e : Int), l.drop i = t → 0 ≤ e → e ≤ 1099511627776 →
    Ev (fun k => region_May.l0 k l e l (l.length : Int) (i : Int)) (mayL e (prev l i) t) := by
  intro t
  induction t with
  | nil =>
    intro i e h h0 h1
    have hge := drop_nil_ge h
    refine Ev.step (f := fun _ => some true) (fun k => ?_) (Ev.now _)
    simp only [region_May.l0]
    rw [if_neg (by omega)]
  | cons r t ih =>
    intro i e h h0 h1
    have hlt := drop_lt h
    have hr := rd_at l i r t h
    have hn := drop_succ h
    have hp : rd_T26 l ((i : Int) - 1) = rd_T26 l ((i : Int) - 1) := rfl
    have key : ∀ k, region_May.l0 (k + 1) l e l (l.length : Int) (i : Int) =
        if (decide (r.f0 = e) && decide (1 ≤ r.f1) && decide (r.f1 ≤ 1099511627776 - e) && isS r.f2 && decide (prev l i ≠ some r.f2)) = true then region_May.l0 k l (e + r.f1) l (l.length : Int) ((i : Int) + 1) else some false := by
      intro k
      simp only [region_May.l0]
      rw [if_pos (by omega), if_pos (by omega), if_pos (by omega), hr]
      by_cases c1 : r.f0 = e
      · rw [if_pos c1]
        by_cases c2 : r.f1 < 1
        · rw [if_pos c2]; simp [c1, show ¬ 1 ≤ r.f1 from by omega]
        · rw [if_neg c2, wrap_in (x := 1099511627776 - e) (by omega) (by omega)]
          by_cases c3 : r.f1 > 1099511627776 - e
          · rw [if_pos c3]; simp [c1, show ¬ r.f1 ≤ 1099511627776 - e from by omega]
          · rw [if_neg c3, is_eq, wrap_in (x := e + r.f1) (by omega) (by omega), wrap_in (x := (i : Int) + 1) (by omega) (by omega), wrap_in (x := (i : Int) - 1) (by omega) (by omega)]
            simp only [Option.bind_some]
            cases hs : isS r.f2 with
            | false => simp [c1]
            | true =>
              simp only [if_true]
              by_cases c4 : (i : Int) > 0
              · rw [if_pos c4, if_pos (by omega), if_pos (by omega)]
                have hi : i ≠ 0 := by omega
                simp only [prev, hi, if_false]
                by_cases c5 : (rd_T26 l ((i : Int) - 1)).f2 = r.f2
                · rw [if_pos c5]; simp [c5]
                · rw [if_neg c5]
                  simp [c1, c5, show 1 ≤ r.f1 from by omega, show r.f1 ≤ 1099511627776 - e from by omega]
              · rw [if_neg c4]
                have hi : i = 0 := by omega
                simp [prev, hi, c1, show 1 ≤ r.f1 from by omega, show r.f1 ≤ 1099511627776 - e from by omega]
      · rw [if_neg c1]; simp [c1]
    by_cases hc : (decide (r.f0 = e) && decide (1 ≤ r.f1) && decide (r.f1 ≤ 1099511627776 - e) && isS r.f2 && decide (prev l i ≠ some r.f2)) = true
    · have hb : 1 ≤ r.f1 ∧ r.f1 ≤ 1099511627776 - e := by simp only [Bool.and_eq_true, decide_eq_true_eq] at hc; omega
      have ih' := ih (i + 1) (e + r.f1) hn (by omega) (by omega)
      have hpv : prev l (i + 1) = some r.f2 := by simp [prev, hr]
      rw [hpv] at ih'
      rw [mayL, hc, Bool.true_and]
      refine Ev.step (f := fun k => region_May.l0 k l (e + r.f1) l (l.length : Int) ((i : Int) + 1)) (fun k => by rw [key k, if_pos hc]) ?_
      have e1 : (((i + 1 : Nat) : Int)) = (i : Int) + 1 := by omega
      rw [e1] at ih'
      exact ih'
    · rw [mayL, Bool.eq_false_iff.mpr hc, Bool.false_and]
      exact Ev.step (f := fun _ => some false) (fun k => by rw [key k, if_neg hc]) (Ev.now _)

theorem may (l : List S26) (hl : l.length ≤ 4611686018427387904) : Ev (fun k => region_May.f k l) (mayL 0 none l) := by
  have := may_ev l hl l 0 0 rfl (by omega) (by omega)
  simpa [prev, region_May.f] using this

end Go.Proofs.Ytjgkfnbfjamccaa.Reg
