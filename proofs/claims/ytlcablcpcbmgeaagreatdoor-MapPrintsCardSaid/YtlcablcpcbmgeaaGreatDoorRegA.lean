/- Regions in plain Lean: which may be, what Set makes of them place by place, lists that are told by their places, the end. No conditions beyond those that the lemmas name. -/
-- names: api_Region.f region_End.f region_Is.f region_May.f region_Push.f region_Set.f region_end.f salvorref16_SameRegions.f
import Derived.Test.YtlcablcpcbmgeaaGreatDoorPx0
import Derived.Test.YtlcablcpcbmgeaaGreatDoorPx2
import Derived.Test.YtlcablcpcbmgeaaGreatDoorPx3
import Derived.Test.YtlcablcpcbmgeaaGreatDoorPx4
import Derived.Test.YtlcablcpcbmgeaaGreatDoorPx19
import Derived.Test.YtlcablcpcbmgeaaGreatDoorPx22
import Derived.Test.YtlcablcpcbmgeaaGreatDoorPx39
import Derived.Test.YtlcablcpcbmgeaaGreatDoorPx40
namespace Go.Proofs.YtlcablcpcbmgeaaGreatDoor.Reg
open Go.RowKit Go.Proofs.YtlcablcpcbmgeaaGreatDoorW.PrintWords Go.Proofs.YtlcablcpcbmgeaaGreatDoorW.PrintLast Go.Proofs.YtlcablcpcbmgeaaGreatDoorW.PrintMore Go.Proofs.YtlcablcpcbmgeaaGreatDoor.P

theorem wrap_in {x : Int} (h0 : -9223372036854775808 ≤ x) (h1 : x < 9223372036854775808) : wrap64 x = x := by unfold wrap64; omega

theorem i64_range {x : Int} (h : (Lit.int .i64 x).wf = true) : -9223372036854775808 ≤ x ∧ x ≤ 9223372036854775807 := by
  simp only [Lit.wf, Bool.and_eq_true, decide_eq_true_eq] at h
  exact h
theorem u8_range {x : Int} (h : (Lit.int .u8 x).wf = true) : 0 ≤ x ∧ x ≤ 255 := by
  simp only [Lit.wf, Bool.and_eq_true, decide_eq_true_eq] at h
  exact h

theorem rd_at (l : List S23) (i : Nat) (r : S23) (t : List S23) (h : l.drop i = r :: t) : rd_T23 l (i : Int) = r := by
  unfold rd_T23
  have h1 : l[i]? = some r := by
    have := List.getElem?_drop (xs := l) (i := i) (j := 0)
    rw [h] at this
    simpa using this.symm
  simp [List.getD, h1]
theorem drop_lt {α : Type} {l t : List α} {i : Nat} {r : α} (h : l.drop i = r :: t) : i < l.length := by
  have := congrArg List.length h
  simp at this
  omega
theorem drop_succ {α : Type} {l t : List α} {i : Nat} {r : α} (h : l.drop i = r :: t) : l.drop (i + 1) = t := by
  rw [← List.drop_drop, h]; rfl
theorem drop_nil_ge {α : Type} {l : List α} {i : Nat} (h : l.drop i = []) : l.length ≤ i := by
  simpa using h

/-- Is it a status? -/
def isS (c : Int) : Bool := c == 63 || c == 42 || c == 47 || c == 45 || c == 43
theorem is_eq (c : Int) : region_Is.f c = some (isS c) := by
  unfold region_Is.f isS
  by_cases h1 : c = 63 <;> by_cases h2 : c = 42 <;> by_cases h3 : c = 47 <;> by_cases h4 : c = 45 <;> by_cases h5 : c = 43 <;> simp_all
/-- The rest of regions, from a place on, behind one of a status. -/
def mayL (e : Int) (p : Option Int) : List S23 → Bool
  | [] => true
  | r :: t => decide (r.f0 = e) && decide (1 ≤ r.f1) && decide (r.f1 ≤ 1099511627776 - e) && isS r.f2 && decide (p ≠ some r.f2) && mayL (e + r.f1) (some r.f2) t

/-- The status ahead of an index. -/
def prev (l : List S23) (i : Nat) : Option Int := if i = 0 then none else some (rd_T23 l ((i : Int) - 1)).f2

theorem may_ev (l : List S23) (hl : l.length ≤ 4611686018427387904) : ∀ (t : List S23) (i : Nat) (e : Int), l.drop i = t → 0 ≤ e → e ≤ 1099511627776 →
    Ev (fun k => region_May.l0 k l e l (l.length : Int) (i : Int)) (mayL e (prev l i) t) := by
  intro t
  induction t with
  | nil =>
    intro i e h h0 h1
    have hge := drop_nil_ge h
    refine Ev.step (f := fun _ => some true) (fun k => ?_) (Ev.now _)
    simp only [region_May.l0]
    rw [if_neg (by omega)]
  | cons r t ih =>
    intro i e h h0 h1
    have hlt := drop_lt h
    have hr := rd_at l i r t h
    have hn := drop_succ h
    have hp : rd_T23 l ((i : Int) - 1) = rd_T23 l ((i : Int) - 1) := rfl
    have key : ∀ k, region_May.l0 (k + 1) l e l (l.length : Int) (i : Int) =
        if (decide (r.f0 = e) && decide (1 ≤ r.f1) && decide (r.f1 ≤ 1099511627776 - e) && isS r.f2 && decide (prev l i ≠ some r.f2)) = true then region_May.l0 k l (e + r.f1) l (l.length : Int) ((i : Int) + 1) else some false := by
      intro k
      simp only [region_May.l0]
      rw [if_pos (by omega), if_pos (by omega), if_pos (by omega), hr]
      by_cases c1 : r.f0 = e
      · rw [if_pos c1]
        by_cases c2 : r.f1 < 1
        · rw [if_pos c2]; simp [c1, show ¬ 1 ≤ r.f1 from by omega]
        · rw [if_neg c2, wrap_in (x := 1099511627776 - e) (by omega) (by omega)]
          by_cases c3 : r.f1 > 1099511627776 - e
          · rw [if_pos c3]; simp [c1, show ¬ r.f1 ≤ 1099511627776 - e from by omega]
          · rw [if_neg c3, is_eq, wrap_in (x := e + r.f1) (by omega) (by omega), wrap_in (x := (i : Int) + 1) (by omega) (by omega), wrap_in (x := (i : Int) - 1) (by omega) (by omega)]
            simp only [Option.bind_some]
            cases hs : isS r.f2 with
            | false => simp [c1]
            | true =>
              simp only [if_true]
              by_cases c4 : (i : Int) > 0
              · rw [if_pos c4, if_pos (by omega), if_pos (by omega)]
                have hi : i ≠ 0 := by omega
                simp only [prev, hi, if_false]
                by_cases c5 : (rd_T23 l ((i : Int) - 1)).f2 = r.f2
                · rw [if_pos c5]; simp [c5]
                · rw [if_neg c5]
                  simp [c1, c5, show 1 ≤ r.f1 from by omega, show r.f1 ≤ 1099511627776 - e from by omega]
              · rw [if_neg c4]
                have hi : i = 0 := by omega
                simp [prev, hi, c1, show 1 ≤ r.f1 from by omega, show r.f1 ≤ 1099511627776 - e from by omega]
      · rw [if_neg c1]; simp [c1]
    by_cases hc : (decide (r.f0 = e) && decide (1 ≤ r.f1) && decide (r.f1 ≤ 1099511627776 - e) && isS r.f2 && decide (prev l i ≠ some r.f2)) = true
    · have hb : 1 ≤ r.f1 ∧ r.f1 ≤ 1099511627776 - e := by simp only [Bool.and_eq_true, decide_eq_true_eq] at hc; omega
      have ih' := ih (i + 1) (e + r.f1) hn (by omega) (by omega)
      have hpv : prev l (i + 1) = some r.f2 := by simp [prev, hr]
      rw [hpv] at ih'
      rw [mayL, hc, Bool.true_and]
      refine Ev.step (f := fun k => region_May.l0 k l (e + r.f1) l (l.length : Int) ((i : Int) + 1)) (fun k => by rw [key k, if_pos hc]) ?_
      have e1 : (((i + 1 : Nat) : Int)) = (i : Int) + 1 := by omega
      rw [e1] at ih'
      exact ih'
    · rw [mayL, Bool.eq_false_iff.mpr hc, Bool.false_and]
      exact Ev.step (f := fun _ => some false) (fun k => by rw [key k, if_neg hc]) (Ev.now _)

theorem may (l : List S23) (hl : l.length ≤ 4611686018427387904) : Ev (fun k => region_May.f k l) (mayL 0 none l) := by
  have := may_ev l hl l 0 0 rfl (by omega) (by omega)
  simpa [prev, region_May.f] using this


/-- Where regions from a place on end. -/
def endOf (e : Int) : List S23 → Int
  | [] => e
  | r :: t => endOf (e + r.f1) t
/-- The last status. -/
def lastSt (p : Option Int) : List S23 → Option Int
  | [] => p
  | r :: t => lastSt (some r.f2) t
/-- The status of a place. -/
def stAt (e : Int) : List S23 → Int → Option Int
  | [], _ => none
  | r :: t, x => if x < e then none else if x < e + r.f1 then some r.f2 else stAt (e + r.f1) t x

theorem endOf_append (e : Int) (a b : List S23) : endOf e (a ++ b) = endOf (endOf e a) b := by
  induction a generalizing e with
  | nil => rfl
  | cons r t ih => simp [endOf, ih]
theorem lastSt_append (p : Option Int) (a b : List S23) : lastSt p (a ++ b) = lastSt (lastSt p a) b := by
  induction a generalizing p with
  | nil => rfl
  | cons r t ih => simp [lastSt, ih]
theorem mayL_append (e : Int) (p : Option Int) (a b : List S23) : mayL e p (a ++ b) = (mayL e p a && mayL (endOf e a) (lastSt p a) b) := by
  induction a generalizing e p with
  | nil => simp [mayL, endOf, lastSt]
  | cons r t ih => simp [mayL, endOf, lastSt, ih, Bool.and_assoc]
theorem mayL_cons {e : Int} {p : Option Int} {r : S23} {t : List S23} (h : mayL e p (r :: t) = true) : r.f0 = e ∧ 1 ≤ r.f1 ∧ r.f1 ≤ 1099511627776 - e ∧ isS r.f2 = true ∧ p ≠ some r.f2 ∧ mayL (e + r.f1) (some r.f2) t = true := by
  simp only [mayL, Bool.and_eq_true, decide_eq_true_eq] at h
  obtain ⟨⟨⟨⟨⟨h1, h2⟩, h3⟩, h4⟩, h5⟩, h6⟩ := h
  exact ⟨h1, h2, h3, h4, h5, h6⟩
theorem mayL_mk {e : Int} {p : Option Int} {r : S23} {t : List S23} (h1 : r.f0 = e) (h2 : 1 ≤ r.f1) (h3 : r.f1 ≤ 1099511627776 - e) (h4 : isS r.f2 = true) (h5 : p ≠ some r.f2) (h6 : mayL (e + r.f1) (some r.f2) t = true) : mayL e p (r :: t) = true := by
  simp only [mayL, Bool.and_eq_true, decide_eq_true_eq]
  exact ⟨⟨⟨⟨⟨h1, h2⟩, h3⟩, h4⟩, h5⟩, h6⟩
theorem mayL_end {e : Int} {p : Option Int} {l : List S23} (h : mayL e p l = true) (he : e ≤ 1099511627776) : e + (l.length : Int) ≤ endOf e l ∧ endOf e l ≤ 1099511627776 := by
  induction l generalizing e p with
  | nil => simp [endOf, he]
  | cons r t ih =>
    obtain ⟨h1, h2, h3, h4, h5, h6⟩ := mayL_cons h
    have := ih h6 (by omega)
    simp only [endOf, List.length_cons]
    omega
theorem stAt_out {e : Int} {p : Option Int} {l : List S23} (h : mayL e p l = true) (x : Int) : x < e ∨ endOf e l ≤ x → stAt e l x = none := by
  induction l generalizing e p with
  | nil => intro _; rfl
  | cons r t ih =>
    intro hx
    obtain ⟨h1, h2, h3, h4, h5, h6⟩ := mayL_cons h
    have he := (mayL_end h6 (by omega)).1
    simp only [stAt, endOf] at hx ⊢
    by_cases c1 : x < e
    · rw [if_pos c1]
    · rw [if_neg c1, if_neg (by omega)]
      exact ih h6 (.inr (by omega))
theorem stAt_in {e : Int} {p : Option Int} {l : List S23} (h : mayL e p l = true) (x : Int) (h0 : e ≤ x) (h1 : x < endOf e l) : ∃ s, stAt e l x = some s ∧ isS s = true := by
  induction l generalizing e p with
  | nil => simp [endOf] at h1; omega
  | cons r t ih =>
    obtain ⟨g1, g2, g3, g4, g5, g6⟩ := mayL_cons h
    simp only [stAt, endOf] at h1 ⊢
    rw [if_neg (by omega)]
    by_cases c : x < e + r.f1
    · rw [if_pos c]; exact ⟨_, rfl, g4⟩
    · rw [if_neg c]; exact ih g6 (by omega) h1
theorem stAt_append' {E : Int} {e : Int} {p : Option Int} {a b : List S23} (h : mayL e p (a ++ b) = true) (he : e ≤ 1099511627776) (x : Int) (hE : endOf e a = E) : stAt e (a ++ b) x = if x < E then stAt e a x else stAt E b x := by
  induction a generalizing e p with
  | nil =>
    obtain rfl : e = E := hE
    show stAt e b x = if x < e then none else stAt e b x
    have h' : mayL e p b = true := h
    by_cases c : x < e
    · rw [if_pos c]; exact stAt_out h' x (.inl c)
    · rw [if_neg c]
  | cons r t ih =>
    obtain ⟨g1, g2, g3, g4, g5, g6⟩ := mayL_cons (show mayL e p (r :: (t ++ b)) = true from h)
    have hm : mayL (e + r.f1) (some r.f2) t = true := by rw [mayL_append, Bool.and_eq_true] at g6; exact g6.1
    have hge := (mayL_end hm (by omega)).1
    have hE' : endOf (e + r.f1) t = E := hE
    rw [hE'] at hge
    have ih' := ih g6 (by omega) hE'
    show (if x < e then none else if x < e + r.f1 then some r.f2 else stAt (e + r.f1) (t ++ b) x) = if x < E then (if x < e then none else if x < e + r.f1 then some r.f2 else stAt (e + r.f1) t x) else stAt E b x
    by_cases c1 : x < e
    · rw [if_pos c1, if_pos c1, if_pos (by omega)]
    · rw [if_neg c1, if_neg c1]
      by_cases c2 : x < e + r.f1
      · rw [if_pos c2, if_pos c2, if_pos (by omega)]
      · rw [if_neg c2, if_neg c2]; exact ih'
theorem stAt_append {e : Int} {p : Option Int} {a b : List S23} (h : mayL e p (a ++ b) = true) (he : e ≤ 1099511627776) (x : Int) : stAt e (a ++ b) x = if x < endOf e a then stAt e a x else stAt (endOf e a) b x := stAt_append' h he x rfl

/-- Lists that may be are told by their ends and their places. -/
theorem canon : ∀ (a b : List S23) (e : Int) (p : Option Int), e ≤ 1099511627776 → mayL e p a = true → mayL e p b = true → endOf e a = endOf e b → (∀ x, stAt e a x = stAt e b x) → a = b := by
  intro a
  induction a with
  | nil =>
    intro b e p hle ha hb he hs
    cases b with
    | nil => rfl
    | cons r t =>
      obtain ⟨g1, g2, g3, g4, g5, g6⟩ := mayL_cons hb
      have := (mayL_end g6 (by omega)).1
      simp only [endOf] at he
      omega
  | cons r t ih =>
    intro b e p hle ha hb he hs
    obtain ⟨g1, g2, g3, g4, g5, g6⟩ := mayL_cons ha
    have hge := (mayL_end g6 (by omega)).1
    cases b with
    | nil => simp only [endOf] at he; omega
    | cons r' t' =>
      obtain ⟨k1, k2, k3, k4, k5, k6⟩ := mayL_cons hb
      have hge' := (mayL_end k6 (by omega)).1
      -- the statuses
      have h0 := hs e
      simp only [stAt] at h0
      rw [if_neg (by omega), if_pos (by omega), if_neg (by omega), if_pos (by omega)] at h0
      have hst : r.f2 = r'.f2 := Option.some.inj h0
      -- the sizes
      have hsz : r.f1 = r'.f1 := by
        rcases Int.lt_trichotomy r.f1 r'.f1 with hlt | heq | hgt
        · exfalso
          have hx := hs (e + r.f1)
          simp only [stAt] at hx
          rw [if_neg (by omega), if_neg (by omega), if_neg (by omega), if_pos (by omega)] at hx
          cases t with
          | nil => simp [stAt] at hx
          | cons q u =>
            obtain ⟨q1, q2, q3, q4, q5, q6⟩ := mayL_cons g6
            simp only [stAt] at hx
            rw [if_neg (by omega), if_pos (by omega)] at hx
            exact q5 (by rw [hst]; exact hx.symm)
        · exact heq
        · exfalso
          have hx := hs (e + r'.f1)
          simp only [stAt] at hx
          rw [if_neg (by omega), if_pos (by omega), if_neg (by omega), if_neg (by omega)] at hx
          cases t' with
          | nil => simp [stAt] at hx
          | cons q u =>
            obtain ⟨q1, q2, q3, q4, q5, q6⟩ := mayL_cons k6
            simp only [stAt] at hx
            rw [if_neg (by omega), if_pos (by omega)] at hx
            exact q5 (by rw [← hst]; exact hx)
      have hr : r = r' := by
        cases r; cases r'; simp only at *; subst hst hsz; rw [g1, k1]
      subst hr
      simp only [endOf] at he
      congr 1
      refine ih t' (e + r.f1) (some r.f2) (by omega) g6 k6 he (fun x => ?_)
      have hx := hs x
      simp only [stAt] at hx
      by_cases c : x < e + r.f1
      · rw [stAt_out g6 x (.inl c), stAt_out k6 x (.inl c)]
      · rwa [if_neg (by omega), if_neg c, if_neg (by omega), if_neg c] at hx

/-! ### pushing -/
theorem rd_last (a : List S23) (r : S23) : rd_T23 (a ++ [r]) (a.length : Int) = r := by
  unfold rd_T23; simp
/-- A region laid behind others, from a place on. -/
def addP (l : List S23) (pos n st : Int) : List S23 :=
  if n < 1 then l else
    match l.getLast? with
    | some r => if r.f2 = st then l.set (l.length - 1) ⟨r.f0, r.f1 + n, r.f2⟩ else l ++ [⟨pos, n, st⟩]
    | none => [⟨pos, n, st⟩]
theorem addP_nil (pos n st : Int) : addP [] pos n st = if n < 1 then [] else [⟨pos, n, st⟩] := rfl
theorem addP_snoc (a : List S23) (r : S23) (pos n st : Int) : addP (a ++ [r]) pos n st = if n < 1 then a ++ [r] else if r.f2 = st then a ++ [⟨r.f0, r.f1 + n, r.f2⟩] else a ++ [r] ++ [⟨pos, n, st⟩] := by
  unfold addP
  simp only [List.getLast?_append, List.getLast?_singleton, Option.some_or]
  by_cases c : n < 1
  · rw [if_pos c, if_pos c]
  · rw [if_neg c, if_neg c]
    by_cases c2 : r.f2 = st
    · rw [if_pos c2, if_pos c2]; simp
    · rw [if_neg c2, if_neg c2]
theorem snoc_cases (l : List S23) : l = [] ∨ ∃ a r, l = a ++ [r] := by
  rcases List.eq_nil_or_concat l with h | ⟨a, r, h⟩
  · exact .inl h
  · exact .inr ⟨a, r, by simpa using h⟩

theorem end_snoc (a : List S23) (r : S23) (hl : a.length ≤ 4611686018427387904) : region_end.f (a ++ [r]) = some (wrap64 (r.f0 + r.f1)) := by
  unfold region_end.f
  have e1 : ((a ++ [r]).length : Int) = (a.length : Int) + 1 := by simp
  rw [e1, if_neg (by omega), wrap_in (by omega) (by omega), show (a.length : Int) + 1 - 1 = a.length from by omega, if_pos (by omega), if_pos (by omega), rd_last]
theorem end_nil : region_end.f [] = some 0 := rfl
/-- Regions that may be end where their sizes say. -/
theorem may_snoc {a : List S23} {r : S23} {e : Int} {p : Option Int} (h : mayL e p (a ++ [r]) = true) (h0 : 0 ≤ e) (he : e ≤ 1099511627776) : mayL e p a = true ∧ r.f0 = endOf e a ∧ 1 ≤ r.f1 ∧ r.f0 + r.f1 = endOf e (a ++ [r]) ∧ 0 ≤ r.f0 ∧ r.f0 + r.f1 ≤ 1099511627776 ∧ lastSt p a ≠ some r.f2 ∧ isS r.f2 = true := by
  have h' := h
  rw [mayL_append, Bool.and_eq_true] at h
  obtain ⟨g1, g2, g3, g4, g5, g6⟩ := mayL_cons h.2
  have hb := mayL_end h.1 he
  refine ⟨h.1, g1, g2, by rw [endOf_append]; simp [endOf, g1], by omega, by omega, g5, g4⟩
theorem end_may {l : List S23} (h : mayL 0 none l = true) : region_end.f l = some (endOf 0 l) := by
  have hb := mayL_end h (by omega)
  rcases snoc_cases l with rfl | ⟨a, r, rfl⟩
  · rfl
  · obtain ⟨g1, g2, g3, g4, g5, g6, _, _⟩ := may_snoc h (by omega) (by omega)
    simp only [List.length_append, List.length_cons, List.length_nil] at hb
    rw [end_snoc a r (by omega), wrap_in (by omega) (by omega), g4]

theorem push_eq {l : List S23} (h : mayL 0 none l = true) (n st : Int) (hn : n ≤ 1099511627776 - endOf 0 l) : region_Push.f l n st = some (addP l (endOf 0 l) n st) := by
  have hb := mayL_end h (by omega)
  unfold region_Push.f
  by_cases c : n < 1
  · rw [if_pos c]
    unfold addP; rw [if_pos c]
  · rw [if_neg c]
    rcases snoc_cases l with rfl | ⟨a, r, rfl⟩
    · rw [addP_nil, if_neg c]
      simp [wrap64, end_nil, endOf]
    · obtain ⟨g1, g2, g3, g4, g5, g6, _, _⟩ := may_snoc h (by omega) (by omega)
      have hlen : (a.length : Int) + 1 ≤ 1099511627776 := by
        simp only [List.length_append, List.length_cons, List.length_nil] at hb; omega
      have e1 : ((a ++ [r]).length : Int) = (a.length : Int) + 1 := by simp
      rw [addP_snoc, if_neg c, e1, wrap_in (by omega) (by omega), show (a.length : Int) + 1 - 1 = a.length from by omega, if_pos (by omega), if_pos (by omega), if_pos (by omega), rd_last]
      by_cases c2 : r.f2 = st
      · rw [if_pos c2, if_pos c2, wrap_in (x := r.f1 + n) (by omega) (by omega)]
        simp
      · rw [if_neg c2, if_neg c2, end_may h]
        simp only [Option.bind_some]
        rw [if_pos (by simp only [List.length_append, List.length_cons, List.length_nil]; omega)]

theorem addP_may {l : List S23} {n st E : Int} (h : mayL 0 none l = true) (hE : endOf 0 l = E) (hs : 1 ≤ n → isS st = true) (hn : n ≤ 1099511627776 - E) :
    mayL 0 none (addP l E n st) = true ∧ endOf 0 (addP l E n st) = E + (if n < 1 then 0 else n) ∧
    ∀ x, stAt 0 (addP l E n st) x = if E ≤ x ∧ x < E + n then some st else stAt 0 l x := by
  have hb := mayL_end h (by omega)
  rw [hE] at hb
  by_cases c : n < 1
  · have e : addP l E n st = l := by unfold addP; rw [if_pos c]
    rw [e]
    refine ⟨h, by rw [if_pos c, hE]; omega, fun x => ?_⟩
    rw [if_neg (by omega)]
  · have hs' := hs (by omega)
    rw [if_neg c]
    rcases snoc_cases l with rfl | ⟨a, r, rfl⟩
    · obtain rfl : 0 = E := hE
      rw [addP_nil, if_neg c]
      refine ⟨mayL_mk rfl (by simp only; omega) (by simp only; omega) hs' (by simp) rfl, by simp [endOf], fun x => ?_⟩
      show (if x < 0 then none else if x < 0 + n then some st else none) = if 0 ≤ x ∧ x < 0 + n then some st else none
      by_cases c1 : x < 0
      · rw [if_pos c1, if_neg (by omega)]
      · rw [if_neg c1]
        by_cases c2 : x < 0 + n
        · rw [if_pos c2, if_pos (by omega)]
        · rw [if_neg c2, if_neg (by omega)]
    · obtain ⟨g0, g1, g2, g4, g5, g6, g7, g8⟩ := may_snoc h (by omega) (by omega)
      rw [addP_snoc, if_neg c]
      have hab := mayL_end g0 (by omega)
      rw [hE] at g4
      obtain ⟨A, hA⟩ : ∃ A, endOf 0 a = A := ⟨_, rfl⟩
      rw [hA] at g1 hab
      have hEA : A + r.f1 = E := by omega
      by_cases c2 : r.f2 = st
      · rw [if_pos c2]
        have hm : mayL 0 none (a ++ [⟨r.f0, r.f1 + n, r.f2⟩]) = true := by
          rw [mayL_append, g0, Bool.true_and]
          exact mayL_mk (g1.trans hA.symm) (by simp only; omega) (by simp only; rw [hA]; omega) g8 g7 rfl
        refine ⟨hm, by rw [endOf_append, hA]; simp [endOf]; omega, fun x => ?_⟩
        rw [stAt_append' hm (by omega) x hA, stAt_append' h (by omega) x hA]
        simp only [stAt]
        by_cases c3 : x < A
        · rw [if_pos c3, if_pos c3, if_neg (by omega)]
        · rw [if_neg c3, if_neg c3, if_neg c3, if_neg c3]
          by_cases c4 : x < A + r.f1
          · rw [if_pos (by omega), if_neg (by omega), if_pos c4]
          · by_cases c5 : x < A + r.f1 + n
            · rw [if_pos (by omega), if_pos (by omega), c2]
            · rw [if_neg (by omega), if_neg (by omega), if_neg c4]
      · rw [if_neg c2]
        have hm : mayL 0 none (a ++ [r] ++ [⟨E, n, st⟩]) = true := by
          rw [mayL_append, h, Bool.true_and]
          refine mayL_mk hE.symm (by simp only; omega) (by simp only; rw [hE]; omega) hs' ?_ rfl
          rw [lastSt_append]
          simp only [lastSt]
          intro hh
          exact c2 (Option.some.inj hh)
        refine ⟨hm, by rw [endOf_append (b := [⟨E, n, st⟩]), hE]; simp [endOf], fun x => ?_⟩
        rw [stAt_append' hm (by omega) x hE]
        simp only [stAt]
        by_cases c3 : x < E
        · rw [if_pos c3, if_neg (by omega)]
        · rw [if_neg c3, if_neg c3]
          by_cases c4 : x < E + n
          · rw [if_pos c4, if_pos (by omega)]
          · rw [if_neg c4, if_neg (by omega), stAt_out h x (.inr (by omega))]

/-! ### setting -/
def mnI (x y : Int) : Int := if y < x then y else x
/-- What Set makes of the rest of regions, behind what is made of those ahead. -/
def setL (f t st : Int) : List S23 → List S23 → List S23
  | out, [] => out
  | out, r :: rs =>
    let e := r.f0 + r.f1
    let a := mn (mx f r.f0) e
    let b := mn (mx t r.f0) e
    setL f t st (addP (addP (addP out r.f0 (a - r.f0) r.f2) a (b - a) st) b (e - b) r.f2) rs

theorem clamp (f p e : Int) (h : p ≤ e) : p ≤ mn (mx f p) e ∧ mn (mx f p) e ≤ e ∧ (∀ x, p ≤ x → x < e → (x < mn (mx f p) e ↔ x < f)) := by
  unfold mn mx
  refine ⟨?_, ?_, fun x h0 h1 => ?_⟩
  · split <;> split at * <;> omega
  · split <;> split at * <;> omega
  · split <;> split at * <;> omega
theorem clamp_le (f t p e : Int) (h : f ≤ t) : mn (mx f p) e ≤ mn (mx t p) e := by
  unfold mn mx
  repeat' split
  all_goals omega

theorem addP_len (l : List S23) (p n st : Int) : (addP l p n st).length ≤ l.length + 1 := by
  unfold addP
  split
  · omega
  · split
    · split <;> simp
    · simp

/-- One round of Set: of what lies ahead and a region behind it. -/
theorem round_may {out : List S23} {r : S23} {f t st : Int} (h : mayL 0 none out = true) (hE : endOf 0 out = r.f0) (h1 : 1 ≤ r.f1) (h2 : r.f0 + r.f1 ≤ 1099511627776) (hr : isS r.f2 = true) (hs : isS st = true) (hft : f ≤ t) :
    region_Push.f out (mn (mx f r.f0) (r.f0 + r.f1) - r.f0) r.f2 = some (addP out r.f0 (mn (mx f r.f0) (r.f0 + r.f1) - r.f0) r.f2) ∧
    region_Push.f (addP out r.f0 (mn (mx f r.f0) (r.f0 + r.f1) - r.f0) r.f2) (mn (mx t r.f0) (r.f0 + r.f1) - mn (mx f r.f0) (r.f0 + r.f1)) st = some (addP (addP out r.f0 (mn (mx f r.f0) (r.f0 + r.f1) - r.f0) r.f2) (mn (mx f r.f0) (r.f0 + r.f1)) (mn (mx t r.f0) (r.f0 + r.f1) - mn (mx f r.f0) (r.f0 + r.f1)) st) ∧
    region_Push.f (addP (addP out r.f0 (mn (mx f r.f0) (r.f0 + r.f1) - r.f0) r.f2) (mn (mx f r.f0) (r.f0 + r.f1)) (mn (mx t r.f0) (r.f0 + r.f1) - mn (mx f r.f0) (r.f0 + r.f1)) st) (r.f0 + r.f1 - mn (mx t r.f0) (r.f0 + r.f1)) r.f2 = some (addP (addP (addP out r.f0 (mn (mx f r.f0) (r.f0 + r.f1) - r.f0) r.f2) (mn (mx f r.f0) (r.f0 + r.f1)) (mn (mx t r.f0) (r.f0 + r.f1) - mn (mx f r.f0) (r.f0 + r.f1)) st) (mn (mx t r.f0) (r.f0 + r.f1)) (r.f0 + r.f1 - mn (mx t r.f0) (r.f0 + r.f1)) r.f2) ∧
    mayL 0 none (addP (addP (addP out r.f0 (mn (mx f r.f0) (r.f0 + r.f1) - r.f0) r.f2) (mn (mx f r.f0) (r.f0 + r.f1)) (mn (mx t r.f0) (r.f0 + r.f1) - mn (mx f r.f0) (r.f0 + r.f1)) st) (mn (mx t r.f0) (r.f0 + r.f1)) (r.f0 + r.f1 - mn (mx t r.f0) (r.f0 + r.f1)) r.f2) = true ∧
    endOf 0 (addP (addP (addP out r.f0 (mn (mx f r.f0) (r.f0 + r.f1) - r.f0) r.f2) (mn (mx f r.f0) (r.f0 + r.f1)) (mn (mx t r.f0) (r.f0 + r.f1) - mn (mx f r.f0) (r.f0 + r.f1)) st) (mn (mx t r.f0) (r.f0 + r.f1)) (r.f0 + r.f1 - mn (mx t r.f0) (r.f0 + r.f1)) r.f2) = r.f0 + r.f1 ∧
    ∀ x, stAt 0 (addP (addP (addP out r.f0 (mn (mx f r.f0) (r.f0 + r.f1) - r.f0) r.f2) (mn (mx f r.f0) (r.f0 + r.f1)) (mn (mx t r.f0) (r.f0 + r.f1) - mn (mx f r.f0) (r.f0 + r.f1)) st) (mn (mx t r.f0) (r.f0 + r.f1)) (r.f0 + r.f1 - mn (mx t r.f0) (r.f0 + r.f1)) r.f2) x =
      if r.f0 ≤ x ∧ x < r.f0 + r.f1 then some (if f ≤ x ∧ x < t then st else r.f2) else stAt 0 out x := by
  obtain ⟨ca0, ca1, ca2⟩ := clamp f r.f0 (r.f0 + r.f1) (by omega)
  obtain ⟨cb0, cb1, cb2⟩ := clamp t r.f0 (r.f0 + r.f1) (by omega)
  have cab := clamp_le f t r.f0 (r.f0 + r.f1) hft
  obtain ⟨e, he⟩ : ∃ e, r.f0 + r.f1 = e := ⟨_, rfl⟩
  rw [he] at ca0 ca1 ca2 cb0 cb1 cb2 cab h2 ⊢
  obtain ⟨a, ha⟩ : ∃ a, mn (mx f r.f0) e = a := ⟨_, rfl⟩
  obtain ⟨b, hb⟩ : ∃ b, mn (mx t r.f0) e = b := ⟨_, rfl⟩
  rw [ha] at ca0 ca1 ca2 cab ⊢
  rw [hb] at cb0 cb1 cb2 cab ⊢
  have q1 := push_eq h (a - r.f0) r.f2 (by rw [hE]; omega)
  rw [hE] at q1
  obtain ⟨m1, n1, s1⟩ := addP_may h hE (n := a - r.f0) (st := r.f2) (fun _ => hr) (by omega)
  have E1 : endOf 0 (addP out r.f0 (a - r.f0) r.f2) = a := by rw [n1]; split <;> omega
  have q2 := push_eq m1 (b - a) st (by rw [E1]; omega)
  rw [E1] at q2
  obtain ⟨m2, n2, s2⟩ := addP_may m1 E1 (n := b - a) (st := st) (fun _ => hs) (by omega)
  have E2 : endOf 0 (addP (addP out r.f0 (a - r.f0) r.f2) a (b - a) st) = b := by rw [n2]; split <;> omega
  have q3 := push_eq m2 (e - b) r.f2 (by rw [E2]; omega)
  rw [E2] at q3
  obtain ⟨m3, n3, s3⟩ := addP_may m2 E2 (n := e - b) (st := r.f2) (fun _ => hr) (by omega)
  refine ⟨q1, q2, q3, m3, by rw [n3]; split <;> omega, fun x => ?_⟩
  rw [s3 x, s2 x, s1 x]
  by_cases c0 : r.f0 ≤ x ∧ x < e
  · have wa := ca2 x c0.1 c0.2
    have wb := cb2 x c0.1 c0.2
    rw [if_pos c0]
    by_cases d1 : x < a
    · have : x < f := wa.1 d1
      rw [if_neg (by omega), if_neg (by omega), if_pos (by omega), if_neg (by omega)]
    · have d1' : ¬ x < f := fun hh => d1 (wa.2 hh)
      by_cases d2 : x < b
      · have : x < t := wb.1 d2
        rw [if_neg (by omega), if_pos (by omega), if_pos (by omega)]
      · have d2' : ¬ x < t := fun hh => d2 (wb.2 hh)
        rw [if_pos (by omega), if_neg (by omega)]
  · rw [if_neg c0, if_neg (by omega), if_neg (by omega), if_neg (by omega)]

theorem set_ev (l : List S23) (hl : mayL 0 none l = true) (f t st : Int) (_hf : 0 ≤ f) (hft : f ≤ t) (_ht : t ≤ 1099511627776) (hs : isS st = true) : ∀ (rs : List S23) (i : Nat) (out : List S23) (p : Option Int) (E : Int), l.drop i = rs → mayL 0 none out = true → endOf 0 out = E → 0 ≤ E → E ≤ 1099511627776 → mayL E p rs = true →
    Ev (fun k => region_Set.l0 k st f t out l (l.length : Int) (i : Int)) (setL f t st out rs) ∧ mayL 0 none (setL f t st out rs) = true ∧ endOf 0 (setL f t st out rs) = endOf E rs ∧
    ∀ x, stAt 0 (setL f t st out rs) x = if E ≤ x ∧ x < endOf E rs then (stAt E rs x).map (fun s => if f ≤ x ∧ x < t then st else s) else stAt 0 out x := by
  have hlen := (mayL_end hl (by omega))
  intro rs
  induction rs with
  | nil =>
    intro i out p E h hm hE h0 h1 hr
    have hge := drop_nil_ge h
    refine ⟨Ev.step (f := fun _ => some out) (fun k => ?_) (Ev.now _), hm, by rw [setL, hE]; rfl, fun x => ?_⟩
    · simp only [region_Set.l0]
      rw [if_neg (by omega)]
    · show stAt 0 out x = _
      rw [if_neg (by simp only [endOf]; omega)]
  | cons r rs ih =>
    intro i out p E h hm hE h0 h1 hr
    have hlt := drop_lt h
    have hn := drop_succ h
    have hrd := rd_at l i r rs h
    obtain ⟨g1, g2, g3, g4, g5, g6⟩ := mayL_cons hr
    have hend := mayL_end g6 (by omega)
    obtain rfl := g1
    obtain ⟨q1, q2, q3, m3, E3, s3⟩ := round_may (f := f) (t := t) (st := st) hm hE g2 (by omega) g4 hs hft
    obtain ⟨ca0, ca1, ca2⟩ := clamp f r.f0 (r.f0 + r.f1) (by omega)
    obtain ⟨cb0, cb1, cb2⟩ := clamp t r.f0 (r.f0 + r.f1) (by omega)
    have cab := clamp_le f t r.f0 (r.f0 + r.f1) hft
    obtain ⟨i1, i2, i3, i4⟩ := ih (i + 1) _ _ (r.f0 + r.f1) hn m3 E3 (by omega) (by omega) g6
    refine ⟨?_, i2, by rw [setL]; exact i3.trans rfl, fun x => ?_⟩
    · refine Ev.step (f := fun k => region_Set.l0 k st f t (addP (addP (addP out r.f0 (mn (mx f r.f0) (r.f0 + r.f1) - r.f0) r.f2) (mn (mx f r.f0) (r.f0 + r.f1)) (mn (mx t r.f0) (r.f0 + r.f1) - mn (mx f r.f0) (r.f0 + r.f1)) st) (mn (mx t r.f0) (r.f0 + r.f1)) (r.f0 + r.f1 - mn (mx t r.f0) (r.f0 + r.f1)) r.f2) l (l.length : Int) ((i : Int) + 1)) (fun k => ?_) (by rw [show ((i : Int) + 1) = ((i + 1 : Nat) : Int) from by omega]; exact i1)
      simp only [region_Set.l0]
      rw [if_pos (by omega), if_pos (by omega), if_pos (by omega), hrd, wrap_in (x := r.f0 + r.f1) (by omega) (by omega), wrap_in (x := mn (mx f r.f0) (r.f0 + r.f1) - r.f0) (by omega) (by omega), q1]
      simp only [Option.bind_some]
      rw [wrap_in (x := mn (mx t r.f0) (r.f0 + r.f1) - mn (mx f r.f0) (r.f0 + r.f1)) (by omega) (by omega), q2]
      simp only [Option.bind_some]
      rw [wrap_in (x := r.f0 + r.f1 - mn (mx t r.f0) (r.f0 + r.f1)) (by omega) (by omega), q3]
      simp only [Option.bind_some]
      rw [wrap_in (x := (i : Int) + 1) (by omega) (by omega)]
    · rw [setL]
      refine (i4 x).trans ?_
      rw [s3 x]
      show _ = if r.f0 ≤ x ∧ x < endOf (r.f0 + r.f1) rs then ((if x < r.f0 then none else if x < r.f0 + r.f1 then some r.f2 else stAt (r.f0 + r.f1) rs x).map (fun s => if f ≤ x ∧ x < t then st else s)) else stAt 0 out x
      obtain ⟨Z, hZ⟩ : ∃ Z, endOf (r.f0 + r.f1) rs = Z := ⟨_, rfl⟩
      rw [hZ] at hend ⊢
      by_cases d1 : r.f0 + r.f1 ≤ x ∧ x < Z
      · rw [if_pos d1, if_pos (by omega), if_neg (by omega), if_neg (by omega)]
      · rw [if_neg d1]
        by_cases d2 : r.f0 ≤ x ∧ x < r.f0 + r.f1
        · rw [if_pos d2, if_pos (show r.f0 ≤ x ∧ x < Z by omega), if_neg (show ¬ x < r.f0 by omega), if_pos (show x < r.f0 + r.f1 by omega)]
          rfl
        · rw [if_neg d2, if_neg (show ¬ (r.f0 ≤ x ∧ x < Z) by omega)]

theorem stAt_none_out {l : List S23} (h : mayL 0 none l = true) (x : Int) (hx : ¬ (0 ≤ x ∧ x < endOf 0 l)) : stAt 0 l x = none := stAt_out h x (by omega)

/-- What Set makes of regions that may be. -/
def setM (l : List S23) (pos n st : Int) : List S23 := setL (mn pos (endOf 0 l)) (mn pos (endOf 0 l) + mn n (endOf 0 l - mn pos (endOf 0 l))) st [] l
theorem mn_le (x y : Int) : mn x y ≤ x ∧ mn x y ≤ y ∧ (mn x y = x ∨ mn x y = y) := by unfold mn; split <;> omega
theorem mx_ge (x y : Int) : x ≤ mx x y ∧ y ≤ mx x y ∧ (mx x y = x ∨ mx x y = y) := by unfold mx; split <;> omega

theorem set_may {l : List S23} (hl : mayL 0 none l = true) {pos n st : Int} (hp : 0 ≤ pos) (hn : 0 ≤ n) (hs : isS st = true) :
    Ev (fun k => region_Set.f k l pos n st) (setM l pos n st) ∧ mayL 0 none (setM l pos n st) = true ∧ endOf 0 (setM l pos n st) = endOf 0 l ∧
    ∀ x, stAt 0 (setM l pos n st) x = (stAt 0 l x).map (fun s => if pos ≤ x ∧ x < pos + n then st else s) := by
  have hb := mayL_end hl (by omega)
  have h1 := mn_le pos (endOf 0 l)
  have h2 := mn_le n (endOf 0 l - mn pos (endOf 0 l))
  obtain ⟨e1, e2, e3, e4⟩ := set_ev l hl (mn pos (endOf 0 l)) (mn pos (endOf 0 l) + mn n (endOf 0 l - mn pos (endOf 0 l))) st (by omega) (by omega) (by omega) hs l 0 [] none 0 rfl rfl rfl (by omega) (by omega) hl
  refine ⟨?_, e2, e3, fun x => ?_⟩
  · unfold region_Set.f
    refine Ev.bind (may l (by omega)) ?_
    rw [hl]
    simp only [if_true]
    rw [show (fun k => if pos < 0 then region_Set.j0 k l pos n st true else if n < 0 then region_Set.j0 k l pos n st true else (region_Is.f st).bind fun t125 => region_Set.j0 k l pos n st (!t125)) = fun k => region_Set.j0 k l pos n st false from by
      funext k
      rw [if_neg (by omega), if_neg (by omega), is_eq, hs]
      rfl]
    refine Ev.step (f := fun k => region_Set.l0 k st (mn pos (endOf 0 l)) (mn pos (endOf 0 l) + mn n (endOf 0 l - mn pos (endOf 0 l))) [] l (l.length : Int) 0) (fun k => ?_) e1
    simp only [region_Set.j0, Bool.false_eq_true, if_false]
    rw [end_may hl]
    simp only [Option.bind_some]
    rw [wrap_in (x := endOf 0 l - mn pos (endOf 0 l)) (by omega) (by omega), wrap_in (x := mn pos (endOf 0 l) + mn n (endOf 0 l - mn pos (endOf 0 l))) (by omega) (by omega)]
  · refine (e4 x).trans ?_
    by_cases c : 0 ≤ x ∧ x < endOf 0 l
    · rw [if_pos c]
      congr 1
      funext s
      by_cases d : pos ≤ x ∧ x < pos + n
      · rw [if_pos d, if_pos (by omega)]
      · rw [if_neg d, if_neg (by omega)]
    · rw [if_neg c, stAt_none_out hl x c]
      rfl
/-- .. and of others: they stay. -/
theorem set_no {l : List S23} (hlen : l.length ≤ 1000000) {pos n st : Int} (h : mayL 0 none l = false ∨ pos < 0 ∨ n < 0 ∨ isS st = false) : Ev (fun k => region_Set.f k l pos n st) l := by
  have hclone : api_Region.f l = some l := by
    unfold api_Region.f
    simp only [Option.bind_some, List.length_nil, List.nil_append]
    rw [if_pos (by omega)]
  have hj : Ev (fun k => region_Set.j0 k l pos n st true) l := by
    refine Ev.step (f := fun _ => some l) (fun k => ?_) (Ev.now _)
    simp only [region_Set.j0, if_true]
    rw [hclone]; rfl
  unfold region_Set.f
  refine Ev.bind (may l (by omega)) ?_
  cases hm : mayL 0 none l with
  | false => simpa using hj
  | true =>
    simp only [if_true]
    by_cases c1 : pos < 0
    · simpa [c1] using hj
    · by_cases c2 : n < 0
      · simpa [c1, c2] using hj
      · have : isS st = false := by simp_all
        simp only [c1, c2, if_false, is_eq, this, Option.bind_some, Bool.not_false]
        exact hj

theorem same_ev (l : List S23) (hl : l.length ≤ 4611686018427387904) : ∀ (t : List S23) (i : Nat), l.drop i = t → Ev (fun k => salvorref16_SameRegions.l0 k l l (i : Int)) true := by
  intro t
  induction t with
  | nil =>
    intro i h
    have hge := drop_nil_ge h
    refine Ev.step (f := fun _ => some true) (fun k => ?_) (Ev.now _)
    simp only [salvorref16_SameRegions.l0]
    rw [if_neg (by omega)]
  | cons r t ih =>
    intro i h
    have hlt := drop_lt h
    refine Ev.step (f := fun k => salvorref16_SameRegions.l0 k l l ((i + 1 : Nat) : Int)) (fun k => ?_) (ih (i + 1) (drop_succ h))
    simp only [salvorref16_SameRegions.l0]
    rw [if_pos (by omega), if_pos (by omega), if_pos (by omega), wrap_in (x := (i : Int) + 1) (by omega) (by omega)]
    simp
theorem same_self (l : List S23) (hl : l.length ≤ 4611686018427387904) : Ev (fun k => salvorref16_SameRegions.f k l l) true := by
  unfold salvorref16_SameRegions.f
  simp only [if_true]
  exact same_ev l hl l 0 rfl

theorem end_ev (l : List S23) (hl : l.length ≤ 4611686018427387904) : Ev (fun k => region_End.f k l) (if mayL 0 none l = true then endOf 0 l else 0) := by
  unfold region_End.f
  refine Ev.bind (may l hl) ?_
  cases hm : mayL 0 none l with
  | false => exact Ev.now _
  | true => simp only [if_true, end_may hm, Option.bind_some]; exact Ev.now _
end Go.Proofs.YtlcablcpcbmgeaaGreatDoor.Reg
