/- Regions in plain Lean: which may be, what Set makes of them place by place, lists that are told by their places, the end. No conditions beyond those that the lemmas name. Regions are the same as themselves, as the reference asks it. No conditions beyond those that the lemmas name. The reference's May and end are the program's. No conditions beyond those that the lemmas name. The region of a place, the first and the last region of a status, in plain Lean: what the program answers. No conditions beyond those that the lemmas name. The reference's region of a place is the program's. No conditions beyond those that the lemmas name. The reference's first and last region of a status are the program's. No conditions beyond those that the lemmas name. How many places have which statuses, as the program counts. No conditions beyond those that the lemmas name. The reference's Set is the program's; counts are the same. No conditions beyond those that the lemmas name. What the region of a place, the first and the last region of a status are, place by place. No conditions beyond those that the lemmas name. -/
import Derived.Test.YtnoilinjlelpaaaPx0
import Derived.Test.YtnoilinjlelpaaaPx3
import Derived.Test.YtnoilinjlelpaaaPx4
import Derived.Test.YtnoilinjlelpaaaPx5
import Derived.Test.YtnoilinjlelpaaaPx13
import Derived.Test.YtnoilinjlelpaaaPx15
import Derived.Test.YtnoilinjlelpaaaPx16
import Derived.Test.YtnoilinjlelpaaaPx20
import Derived.Test.YtnoilinjlelpaaaPx21
import Derived.Test.YtnoilinjlelpaaaPx22
import Derived.Test.YtnoilinjlelpaaaPx23
import Derived.Test.YtnoilinjlelpaaaPx7
import Derived.Test.YtnoilinjlelpaaaPx8
import Derived.Test.YtnoilinjlelpaaaPx14
import Derived.Test.YtnoilinjlelpaaaPx32
import Derived.Test.YtnoilinjlelpaaaPx26
import Derived.Test.YtnoilinjlelpaaaPx27
import Derived.Test.YtnoilinjlelpaaaPx43
import Derived.Test.YtnoilinjlelpaaaPx44
import Derived.Test.YtnoilinjlelpaaaPx30
import Derived.Test.YtnoilinjlelpaaaPx31
section
namespace Go.Proofs.Ytnoilinjlelpaaa.Reg
open Go.RowKit Go.Proofs.YtnoilinjlelpaaaW.PrintWords Go.Proofs.YtnoilinjlelpaaaW.PrintLast Go.Proofs.YtnoilinjlelpaaaW.PrintMore Go.Proofs.Ytnoilinjlelpaaa.P
theorem wrap_in {x : Int} (h0 : -9223372036854775808 ≤ x) (h1 : x < 9223372036854775808) : wrap64 x = x := by unfold wrap64; omega

theorem i64_range {x : Int} (h : (Lit.int .i64 x).wf = true) : -9223372036854775808 ≤ x ∧ x ≤ 9223372036854775807 := by
  simp only [Lit.wf, Bool.and_eq_true, decide_eq_true_eq] at h
  exact h
theorem u8_range {x : Int} (h : (Lit.int .u8 x).wf = true) : 0 ≤ x ∧ x ≤ 255 := by
  simp only [Lit.wf, Bool.and_eq_true, decide_eq_true_eq] at h
  exact h

theorem rd_at (l : List S33) (i : Nat) (r : S33) (t : List S33) (h : l.drop i = r :: t) : rd_T33 l (i : Int) = r := by
  unfold rd_T33
  have h1 : l[i]? = some r := by
    have := List.getElem?_drop (xs := l) (i := i) (j := 0)
    rw [h] at this
    simpa using this.symm
  simp [List.getD, h1]
theorem drop_lt {α : Type} {l t : List α} {i : Nat} {r : α} (h : l.drop i = r :: t) : i < l.length := by
  have := congrArg List.length h
  simp at this
  omega
theorem drop_succ {α : Type} {l t : List α} {i : Nat} {r : α} (h : l.drop i = r :: t) : l.drop (i + 1) = t := by
  rw [← List.drop_drop, h]; rfl
theorem drop_nil_ge {α : Type} {l : List α} {i : Nat} (h : l.drop i = []) : l.length ≤ i := by
  simpa using h

/-- Is it a status? -/
def isS (c : Int) : Bool := c == 63 || c == 42 || c == 47 || c == 45 || c == 43
theorem is_eq (c : Int) : region_Is.f c = some (isS c) := by
  unfold region_Is.f isS
  by_cases h1 : c = 63 <;> by_cases h2 : c = 42 <;> by_cases h3 : c = 47 <;> by_cases h4 : c = 45 <;> by_cases h5 : c = 43 <;> simp_all
/-- The rest of regions, from a place on, behind one of a status. -/
def mayL (e : Int) (p : Option Int) : List S33 → Bool
  | [] => true
  | r :: t => decide (r.f0 = e) && decide (1 ≤ r.f1) && decide (r.f1 ≤ 1099511627776 - e) && isS r.f2 && decide (p ≠ some r.f2) && mayL (e + r.f1) (some r.f2) t

/-- The status ahead of an index. -/
def prev (l : List S33) (i : Nat) : Option Int := if i = 0 then none else some (rd_T33 l ((i : Int) - 1)).f2

theorem may_ev (l : List S33) (hl : l.length ≤ 4611686018427387904) : ∀ (t : List S33) (i : Nat) (e : Int), l.drop i = t → 0 ≤ e → e ≤ 1099511627776 →
    Ev (fun k => region_May.l0 k l e l (l.length : Int) (i : Int)) (mayL e (prev l i) t) := by
  intro t
  induction t with
  | nil =>
    intro i e h h0 h1
    have hge := drop_nil_ge h
    refine Ev.step (f := fun _ => some true) (fun k => ?_) (Ev.now _)
    simp only [region_May.l0]
    rw [if_neg (by omega)]
  | cons r t ih =>
    intro i e h h0 h1
    have hlt := drop_lt h
    have hr := rd_at l i r t h
    have hn := drop_succ h
    have hp : rd_T33 l ((i : Int) - 1) = rd_T33 l ((i : Int) - 1) := rfl
    have key : ∀ k, region_May.l0 (k + 1) l e l (l.length : Int) (i : Int) =
        if (decide (r.f0 = e) && decide (1 ≤ r.f1) && decide (r.f1 ≤ 1099511627776 - e) && isS r.f2 && decide (prev l i ≠ some r.f2)) = true then region_May.l0 k l (e + r.f1) l (l.length : Int) ((i : Int) + 1) else some false := by
      intro k
      simp only [region_May.l0]
      rw [if_pos (by omega), if_pos (by omega), if_pos (by omega), hr]
      by_cases c1 : r.f0 = e
      · rw [if_pos c1]
        by_cases c2 : r.f1 < 1
        · rw [if_pos c2]; simp [c1, show ¬ 1 ≤ r.f1 from by omega]
        · rw [if_neg c2, wrap_in (x := 1099511627776 - e) (by omega) (by omega)]
          by_cases c3 : r.f1 > 1099511627776 - e
          · rw [if_pos c3]; simp [c1, show ¬ r.f1 ≤ 1099511627776 - e from by omega]
          · rw [if_neg c3, is_eq, wrap_in (x := e + r.f1) (by omega) (by omega), wrap_in (x := (i : Int) + 1) (by omega) (by omega), wrap_in (x := (i : Int) - 1) (by omega) (by omega)]
            simp only [Option.bind_some]
            cases hs : isS r.f2 with
            | false => simp [c1]
            | true =>
              simp only [if_true]
              by_cases c4 : (i : Int) > 0
              · rw [if_pos c4, if_pos (by omega), if_pos (by omega)]
                have hi : i ≠ 0 := by omega
                simp only [prev, hi, if_false]
                by_cases c5 : (rd_T33 l ((i : Int) - 1)).f2 = r.f2
                · rw [if_pos c5]; simp [c5]
                · rw [if_neg c5]
                  simp [c1, c5, show 1 ≤ r.f1 from by omega, show r.f1 ≤ 1099511627776 - e from by omega]
              · rw [if_neg c4]
                have hi : i = 0 := by omega
                simp [prev, hi, c1, show 1 ≤ r.f1 from by omega, show r.f1 ≤ 1099511627776 - e from by omega]
      · rw [if_neg c1]; simp [c1]
    by_cases hc : (decide (r.f0 = e) && decide (1 ≤ r.f1) && decide (r.f1 ≤ 1099511627776 - e) && isS r.f2 && decide (prev l i ≠ some r.f2)) = true
    · have hb : 1 ≤ r.f1 ∧ r.f1 ≤ 1099511627776 - e := by simp only [Bool.and_eq_true, decide_eq_true_eq] at hc; omega
      have ih' := ih (i + 1) (e + r.f1) hn (by omega) (by omega)
      have hpv : prev l (i + 1) = some r.f2 := by simp [prev, hr]
      rw [hpv] at ih'
      rw [mayL, hc, Bool.true_and]
      refine Ev.step (f := fun k => region_May.l0 k l (e + r.f1) l (l.length : Int) ((i : Int) + 1)) (fun k => by rw [key k, if_pos hc]) ?_
      have e1 : (((i + 1 : Nat) : Int)) = (i : Int) + 1 := by omega
      rw [e1] at ih'
      exact ih'
    · rw [mayL, Bool.eq_false_iff.mpr hc, Bool.false_and]
      exact Ev.step (f := fun _ => some false) (fun k => by rw [key k, if_neg hc]) (Ev.now _)

theorem may (l : List S33) (hl : l.length ≤ 4611686018427387904) : Ev (fun k => region_May.f k l) (mayL 0 none l) := by
  have := may_ev l hl l 0 0 rfl (by omega) (by omega)
  simpa [prev, region_May.f] using this


/-- Where regions from a place on end. -/
def endOf (e : Int) : List S33 → Int
  | [] => e
  | r :: t => endOf (e + r.f1) t
/-- The last status. -/
def lastSt (p : Option Int) : List S33 → Option Int
  | [] => p
  | r :: t => lastSt (some r.f2) t
/-- The status of a place. -/
def stAt (e : Int) : List S33 → Int → Option Int
  | [], _ => none
  | r :: t, x => if x < e then none else if x < e + r.f1 then some r.f2 else stAt (e + r.f1) t x

theorem endOf_append (e : Int) (a b : List S33) : endOf e (a ++ b) = endOf (endOf e a) b := by
  induction a generalizing e with
  | nil => rfl
  | cons r t ih => simp [endOf, ih]
theorem lastSt_append (p : Option Int) (a b : List S33) : lastSt p (a ++ b) = lastSt (lastSt p a) b := by
  induction a generalizing p with
  | nil => rfl
  | cons r t ih => simp [lastSt, ih]
theorem mayL_append (e : Int) (p : Option Int) (a b : List S33) : mayL e p (a ++ b) = (mayL e p a && mayL (endOf e a) (lastSt p a) b) := by
  induction a generalizing e p with
  | nil => simp [mayL, endOf, lastSt]
  | cons r t ih => simp [mayL, endOf, lastSt, ih, Bool.and_assoc]
theorem mayL_cons {e : Int} {p : Option Int} {r : S33} {t : List S33} (h : mayL e p (r :: t) = true) : r.f0 = e ∧ 1 ≤ r.f1 ∧ r.f1 ≤ 1099511627776 - e ∧ isS r.f2 = true ∧ p ≠ some r.f2 ∧ mayL (e + r.f1) (some r.f2) t = true := by
  simp only [mayL, Bool.and_eq_true, decide_eq_true_eq] at h
  obtain ⟨⟨⟨⟨⟨h1, h2⟩, h3⟩, h4⟩, h5⟩, h6⟩ := h
  exact ⟨h1, h2, h3, h4, h5, h6⟩
theorem mayL_mk {e : Int} {p : Option Int} {r : S33} {t : List S33} (h1 : r.f0 = e) (h2 : 1 ≤ r.f1) (h3 : r.f1 ≤ 1099511627776 - e) (h4 : isS r.f2 = true) (h5 : p ≠ some r.f2) (h6 : mayL (e + r.f1) (some r.f2) t = true) : mayL e p (r :: t) = true := by
  simp only [mayL, Bool.and_eq_true, decide_eq_true_eq]
  exact ⟨⟨⟨⟨⟨h1, h2⟩, h3⟩, h4⟩, h5⟩, h6⟩
theorem mayL_end {e : Int} {p : Option Int} {l : List S33} (h : mayL e p l = true) (he : e ≤ 1099511627776) : e + (l.length : Int) ≤ endOf e l ∧ endOf e l ≤ 1099511627776 := by
  induction l generalizing e p with
  | nil => simp [endOf, he]
  | cons r t ih =>
    obtain ⟨h1, h2, h3, h4, h5, h6⟩ := mayL_cons h
    have := ih h6 (by omega)
    simp only [endOf, List.length_cons]
    omega
theorem stAt_out {e : Int} {p : Option Int} {l : List S33} (h : mayL e p l = true) (x : Int) : x < e ∨ endOf e l ≤ x → stAt e l x = none := by
  induction l generalizing e p with
  | nil => intro _; rfl
  | cons r t ih =>
    intro hx
    obtain ⟨h1, h2, h3, h4, h5, h6⟩ := mayL_cons h
    have he := (mayL_end h6 (by omega)).1
    simp only [stAt, endOf] at hx ⊢
    by_cases c1 : x < e
    · rw [if_pos c1]
    · rw [if_neg c1, if_neg (by omega)]
      exact ih h6 (.inr (by omega))
theorem stAt_in {e : Int} {p : Option Int} {l : List S33} (h : mayL e p l = true) (x : Int) (h0 : e ≤ x) (h1 : x < endOf e l) : ∃ s, stAt e l x = some s ∧ isS s = true := by
  induction l generalizing e p with
  | nil => simp [endOf] at h1; omega
  | cons r t ih =>
    obtain ⟨g1, g2, g3, g4, g5, g6⟩ := mayL_cons h
    simp only [stAt, endOf] at h1 ⊢
    rw [if_neg (by omega)]
    by_cases c : x < e + r.f1
    · rw [if_pos c]; exact ⟨_, rfl, g4⟩
    · rw [if_neg c]; exact ih g6 (by omega) h1
theorem stAt_append' {E : Int} {e : Int} {p : Option Int} {a b : List S33} (h : mayL e p (a ++ b) = true) (he : e ≤ 1099511627776) (x : Int) (hE : endOf e a = E) : stAt e (a ++ b) x = if x < E then stAt e a x else stAt E b x := by
  induction a generalizing e p with
  | nil =>
    obtain rfl : e = E := hE
    show stAt e b x = if x < e then none else stAt e b x
    have h' : mayL e p b = true := h
    by_cases c : x < e
    · rw [if_pos c]; exact stAt_out h' x (.inl c)
    · rw [if_neg c]
  | cons r t ih =>
    obtain ⟨g1, g2, g3, g4, g5, g6⟩ := mayL_cons (show mayL e p (r :: (t ++ b)) = true from h)
    have hm : mayL (e + r.f1) (some r.f2) t = true := by rw [mayL_append, Bool.and_eq_true] at g6; exact g6.1
    have hge := (mayL_end hm (by omega)).1
    have hE' : endOf (e + r.f1) t = E := hE
    rw [hE'] at hge
    have ih' := ih g6 (by omega) hE'
    show (if x < e then none else if x < e + r.f1 then some r.f2 else stAt (e + r.f1) (t ++ b) x) = if x < E then (if x < e then none else if x < e + r.f1 then some r.f2 else stAt (e + r.f1) t x) else stAt E b x
    by_cases c1 : x < e
    · rw [if_pos c1, if_pos c1, if_pos (by omega)]
    · rw [if_neg c1, if_neg c1]
      by_cases c2 : x < e + r.f1
      · rw [if_pos c2, if_pos c2, if_pos (by omega)]
      · rw [if_neg c2, if_neg c2]; exact ih'
theorem stAt_append {e : Int} {p : Option Int} {a b : List S33} (h : mayL e p (a ++ b) = true) (he : e ≤ 1099511627776) (x : Int) : stAt e (a ++ b) x = if x < endOf e a then stAt e a x else stAt (endOf e a) b x := stAt_append' h he x rfl

/-- Lists that may be are told by their ends and their places. -/
theorem canon : ∀ (a b : List S33) (e : Int) (p : Option Int), e ≤ 1099511627776 → mayL e p a = true → mayL e p b = true → endOf e a = endOf e b → (∀ x, stAt e a x = stAt e b x) → a = b := by
  intro a
  induction a with
  | nil =>
    intro b e p hle ha hb he hs
    cases b with
    | nil => rfl
    | cons r t =>
      obtain ⟨g1, g2, g3, g4, g5, g6⟩ := mayL_cons hb
      have := (mayL_end g6 (by omega)).1
      simp only [endOf] at he
      omega
  | cons r t ih =>
    intro b e p hle ha hb he hs
    obtain ⟨g1, g2, g3, g4, g5, g6⟩ := mayL_cons ha
    have hge := (mayL_end g6 (by omega)).1
    cases b with
    | nil => simp only [endOf] at he; omega
    | cons r' t' =>
      obtain ⟨k1, k2, k3, k4, k5, k6⟩ := mayL_cons hb
      have hge' := (mayL_end k6 (by omega)).1
      -- the statuses
      have h0 := hs e
      simp only [stAt] at h0
      rw [if_neg (by omega), if_pos (by omega), if_neg (by omega), if_pos (by omega)] at h0
      have hst : r.f2 = r'.f2 := Option.some.inj h0
      -- the sizes
      have hsz : r.f1 = r'.f1 := by
        rcases Int.lt_trichotomy r.f1 r'.f1 with hlt | heq | hgt
        · exfalso
          have hx := hs (e + r.f1)
          simp only [stAt] at hx
          rw [if_neg (by omega), if_neg (by omega), if_neg (by omega), if_pos (by omega)] at hx
          cases t with
          | nil => simp [stAt] at hx
          | cons q u =>
            obtain ⟨q1, q2, q3, q4, q5, q6⟩ := mayL_cons g6
            simp only [stAt] at hx
            rw [if_neg (by omega), if_pos (by omega)] at hx
            exact q5 (by rw [hst]; exact hx.symm)
        · exact heq
        · exfalso
          have hx := hs (e + r'.f1)
          simp only [stAt] at hx
          rw [if_neg (by omega), if_pos (by omega), if_neg (by omega), if_neg (by omega)] at hx
          cases t' with
          | nil => simp [stAt] at hx
          | cons q u =>
            obtain ⟨q1, q2, q3, q4, q5, q6⟩ := mayL_cons k6
            simp only [stAt] at hx
            rw [if_neg (by omega), if_pos (by omega)] at hx
            exact q5 (by rw [← hst]; exact hx)
      have hr : r = r' := by
        cases r; cases r'; simp only at *; subst hst hsz; rw [g1, k1]
      subst hr
      simp only [endOf] at he
      congr 1
      refine ih t' (e + r.f1) (some r.f2) (by omega) g6 k6 he (fun x => ?_)
      have hx := hs x
      simp only [stAt] at hx
      by_cases c : x < e + r.f1
      · rw [stAt_out g6 x (.inl c), stAt_out k6 x (.inl c)]
      · rwa [if_neg (by omega), if_neg c, if_neg (by omega), if_neg c] at hx

/-! ### pushing -/
theorem rd_last (a : List S33) (r : S33) : rd_T33 (a ++ [r]) (a.length : Int) = r := by
  unfold rd_T33; simp
/-- A region laid behind others, from a place on. -/
def addP (l : List S33) (pos n st : Int) : List S33 :=
  if n < 1 then l else
    match l.getLast? with
    | some r => if r.f2 = st then l.set (l.length - 1) ⟨r.f0, r.f1 + n, r.f2⟩ else l ++ [⟨pos, n, st⟩]
    | none => [⟨pos, n, st⟩]
theorem addP_nil (pos n st : Int) : addP [] pos n st = if n < 1 then [] else [⟨pos, n, st⟩] := rfl
theorem addP_snoc (a : List S33) (r : S33) (pos n st : Int) : addP (a ++ [r]) pos n st = if n < 1 then a ++ [r] else if r.f2 = st then a ++ [⟨r.f0, r.f1 + n, r.f2⟩] else a ++ [r] ++ [⟨pos, n, st⟩] := by
  unfold addP
  simp only [List.getLast?_append, List.getLast?_singleton, Option.some_or]
  by_cases c : n < 1
  · rw [if_pos c, if_pos c]
  · rw [if_neg c, if_neg c]
    by_cases c2 : r.f2 = st
    · rw [if_pos c2, if_pos c2]; simp
    · rw [if_neg c2, if_neg c2]
theorem snoc_cases (l : List S33) : l = [] ∨ ∃ a r, l = a ++ [r] := by
  rcases List.eq_nil_or_concat l with h | ⟨a, r, h⟩
  · exact .inl h
  · exact .inr ⟨a, r, by simpa using h⟩

theorem end_snoc (a : List S33) (r : S33) (hl : a.length ≤ 4611686018427387904) : region_end.f (a ++ [r]) = some (wrap64 (r.f0 + r.f1)) := by
  unfold region_end.f
  have e1 : ((a ++ [r]).length : Int) = (a.length : Int) + 1 := by simp
  rw [e1, if_neg (by omega), wrap_in (by omega) (by omega), show (a.length : Int) + 1 - 1 = a.length from by omega, if_pos (by omega), if_pos (by omega), rd_last]
theorem end_nil : region_end.f [] = some 0 := rfl
/-- Regions that may be end where their sizes say. -/
theorem may_snoc {a : List S33} {r : S33} {e : Int} {p : Option Int} (h : mayL e p (a ++ [r]) = true) (h0 : 0 ≤ e) (he : e ≤ 1099511627776) : mayL e p a = true ∧ r.f0 = endOf e a ∧ 1 ≤ r.f1 ∧ r.f0 + r.f1 = endOf e (a ++ [r]) ∧ 0 ≤ r.f0 ∧ r.f0 + r.f1 ≤ 1099511627776 ∧ lastSt p a ≠ some r.f2 ∧ isS r.f2 = true := by
  have h' := h
  rw [mayL_append, Bool.and_eq_true] at h
  obtain ⟨g1, g2, g3, g4, g5, g6⟩ := mayL_cons h.2
  have hb := mayL_end h.1 he
  refine ⟨h.1, g1, g2, by rw [endOf_append]; simp [endOf, g1], by omega, by omega, g5, g4⟩
theorem end_may {l : List S33} (h : mayL 0 none l = true) : region_end.f l = some (endOf 0 l) := by
  have hb := mayL_end h (by omega)
  rcases snoc_cases l with rfl | ⟨a, r, rfl⟩
  · rfl
  · obtain ⟨g1, g2, g3, g4, g5, g6, _, _⟩ := may_snoc h (by omega) (by omega)
    simp only [List.length_append, List.length_cons, List.length_nil] at hb
    rw [end_snoc a r (by omega), wrap_in (by omega) (by omega), g4]

theorem push_eq {l : List S33} (h : mayL 0 none l = true) (n st : Int) (hn : n ≤ 1099511627776 - endOf 0 l) : region_Push.f l n st = some (addP l (endOf 0 l) n st) := by
  have hb := mayL_end h (by omega)
  unfold region_Push.f
  by_cases c : n < 1
  · rw [if_pos c]
    unfold addP; rw [if_pos c]
  · rw [if_neg c]
    rcases snoc_cases l with rfl | ⟨a, r, rfl⟩
    · rw [addP_nil, if_neg c]
      simp [wrap64, end_nil, endOf]
    · obtain ⟨g1, g2, g3, g4, g5, g6, _, _⟩ := may_snoc h (by omega) (by omega)
      have hlen : (a.length : Int) + 1 ≤ 1099511627776 := by
        simp only [List.length_append, List.length_cons, List.length_nil] at hb; omega
      have e1 : ((a ++ [r]).length : Int) = (a.length : Int) + 1 := by simp
      rw [addP_snoc, if_neg c, e1, wrap_in (by omega) (by omega), show (a.length : Int) + 1 - 1 = a.length from by omega, if_pos (by omega), if_pos (by omega), if_pos (by omega), rd_last]
      by_cases c2 : r.f2 = st
      · rw [if_pos c2, if_pos c2, wrap_in (x := r.f1 + n) (by omega) (by omega)]
        simp
      · rw [if_neg c2, if_neg c2, end_may h]
        simp only [Option.bind_some]
        rw [if_pos (by simp only [List.length_append, List.length_cons, List.length_nil]; omega)]

theorem addP_may {l : List S33} {n st E : Int} (h : mayL 0 none l = true) (hE : endOf 0 l = E) (hs : 1 ≤ n → isS st = true) (hn : n ≤ 1099511627776 - E) :
    mayL 0 none (addP l E n st) = true ∧ endOf 0 (addP l E n st) = E + (if n < 1 then 0 else n) ∧
    ∀ x, stAt 0 (addP l E n st) x = if E ≤ x ∧ x < E + n then some st else stAt 0 l x := by
  have hb := mayL_end h (by omega)
  rw [hE] at hb
  by_cases c : n < 1
  · have e : addP l E n st = l := by unfold addP; rw [if_pos c]
    rw [e]
    refine ⟨h, by rw [if_pos c, hE]; omega, fun x => ?_⟩
    rw [if_neg (by omega)]
  · have hs' := hs (by omega)
    rw [if_neg c]
    rcases snoc_cases l with rfl | ⟨a, r, rfl⟩
    · obtain rfl : 0 = E := hE
      rw [addP_nil, if_neg c]
      refine ⟨mayL_mk rfl (by simp only; omega) (by simp only; omega) hs' (by simp) rfl, by simp [endOf], fun x => ?_⟩
      show (if x < 0 then none else if x < 0 + n then some st else none) = if 0 ≤ x ∧ x < 0 + n then some st else none
      by_cases c1 : x < 0
      · rw [if_pos c1, if_neg (by omega)]
      · rw [if_neg c1]
        by_cases c2 : x < 0 + n
        · rw [if_pos c2, if_pos (by omega)]
        · rw [if_neg c2, if_neg (by omega)]
    · obtain ⟨g0, g1, g2, g4, g5, g6, g7, g8⟩ := may_snoc h (by omega) (by omega)
      rw [addP_snoc, if_neg c]
      have hab := mayL_end g0 (by omega)
      rw [hE] at g4
      obtain ⟨A, hA⟩ : ∃ A, endOf 0 a = A := ⟨_, rfl⟩
      rw [hA] at g1 hab
      have hEA : A + r.f1 = E := by omega
      by_cases c2 : r.f2 = st
      · rw [if_pos c2]
        have hm : mayL 0 none (a ++ [⟨r.f0, r.f1 + n, r.f2⟩]) = true := by
          rw [mayL_append, g0, Bool.true_and]
          exact mayL_mk (g1.trans hA.symm) (by simp only; omega) (by simp only; rw [hA]; omega) g8 g7 rfl
        refine ⟨hm, by rw [endOf_append, hA]; simp [endOf]; omega, fun x => ?_⟩
        rw [stAt_append' hm (by omega) x hA, stAt_append' h (by omega) x hA]
        simp only [stAt]
        by_cases c3 : x < A
        · rw [if_pos c3, if_pos c3, if_neg (by omega)]
        · rw [if_neg c3, if_neg c3, if_neg c3, if_neg c3]
          by_cases c4 : x < A + r.f1
          · rw [if_pos (by omega), if_neg (by omega), if_pos c4]
          · by_cases c5 : x < A + r.f1 + n
            · rw [if_pos (by omega), if_pos (by omega), c2]
            · rw [if_neg (by omega), if_neg (by omega), if_neg c4]
      · rw [if_neg c2]
        have hm : mayL 0 none (a ++ [r] ++ [⟨E, n, st⟩]) = true := by
          rw [mayL_append, h, Bool.true_and]
          refine mayL_mk hE.symm (by simp only; omega) (by simp only; rw [hE]; omega) hs' ?_ rfl
          rw [lastSt_append]
          simp only [lastSt]
          intro hh
          exact c2 (Option.some.inj hh)
        refine ⟨hm, by rw [endOf_append (b := [⟨E, n, st⟩]), hE]; simp [endOf], fun x => ?_⟩
        rw [stAt_append' hm (by omega) x hE]
        simp only [stAt]
        by_cases c3 : x < E
        · rw [if_pos c3, if_neg (by omega)]
        · rw [if_neg c3, if_neg c3]
          by_cases c4 : x < E + n
          · rw [if_pos c4, if_pos (by omega)]
          · rw [if_neg c4, if_neg (by omega), stAt_out h x (.inr (by omega))]

/-! ### setting -/
def mnI (x y : Int) : Int := if y < x then y else x
/-- What Set makes of the rest of regions, behind what is made of those ahead. -/
def setL (f t st : Int) : List S33 → List S33 → List S33
  | out, [] => out
  | out, r :: rs =>
    let e := r.f0 + r.f1
    let a := mn (mx f r.f0) e
    let b := mn (mx t r.f0) e
    setL f t st (addP (addP (addP out r.f0 (a - r.f0) r.f2) a (b - a) st) b (e - b) r.f2) rs

theorem clamp (f p e : Int) (h : p ≤ e) : p ≤ mn (mx f p) e ∧ mn (mx f p) e ≤ e ∧ (∀ x, p ≤ x → x < e → (x < mn (mx f p) e ↔ x < f)) := by
  unfold mn mx
  refine ⟨?_, ?_, fun x h0 h1 => ?_⟩
  · split <;> split at * <;> omega
  · split <;> split at * <;> omega
  · split <;> split at * <;> omega
theorem clamp_le (f t p e : Int) (h : f ≤ t) : mn (mx f p) e ≤ mn (mx t p) e := by
  unfold mn mx
  repeat' split
  all_goals omega

theorem addP_len (l : List S33) (p n st : Int) : (addP l p n st).length ≤ l.length + 1 := by
  unfold addP
  split
  · omega
  · split
    · split <;> simp
    · simp

/-- One round of Set: of what lies ahead and a region behind it. -/
theorem round_may {out : List S33} {r : S33} {f t st : Int} (h : mayL 0 none out = true) (hE : endOf 0 out = r.f0) (h1 : 1 ≤ r.f1) (h2 : r.f0 + r.f1 ≤ 1099511627776) (hr : isS r.f2 = true) (hs : isS st = true) (hft : f ≤ t) :
    region_Push.f out (mn (mx f r.f0) (r.f0 + r.f1) - r.f0) r.f2 = some (addP out r.f0 (mn (mx f r.f0) (r.f0 + r.f1) - r.f0) r.f2) ∧
    region_Push.f (addP out r.f0 (mn (mx f r.f0) (r.f0 + r.f1) - r.f0) r.f2) (mn (mx t r.f0) (r.f0 + r.f1) - mn (mx f r.f0) (r.f0 + r.f1)) st = some (addP (addP out r.f0 (mn (mx f r.f0) (r.f0 + r.f1) - r.f0) r.f2) (mn (mx f r.f0) (r.f0 + r.f1)) (mn (mx t r.f0) (r.f0 + r.f1) - mn (mx f r.f0) (r.f0 + r.f1)) st) ∧
    region_Push.f (addP (addP out r.f0 (mn (mx f r.f0) (r.f0 + r.f1) - r.f0) r.f2) (mn (mx f r.f0) (r.f0 + r.f1)) (mn (mx t r.f0) (r.f0 + r.f1) - mn (mx f r.f0) (r.f0 + r.f1)) st) (r.f0 + r.f1 - mn (mx t r.f0) (r.f0 + r.f1)) r.f2 = some (addP (addP (addP out r.f0 (mn (mx f r.f0) (r.f0 + r.f1) - r.f0) r.f2) (mn (mx f r.f0) (r.f0 + r.f1)) (mn (mx t r.f0) (r.f0 + r.f1) - mn (mx f r.f0) (r.f0 + r.f1)) st) (mn (mx t r.f0) (r.f0 + r.f1)) (r.f0 + r.f1 - mn (mx t r.f0) (r.f0 + r.f1)) r.f2) ∧
    mayL 0 none (addP (addP (addP out r.f0 (mn (mx f r.f0) (r.f0 + r.f1) - r.f0) r.f2) (mn (mx f r.f0) (r.f0 + r.f1)) (mn (mx t r.f0) (r.f0 + r.f1) - mn (mx f r.f0) (r.f0 + r.f1)) st) (mn (mx t r.f0) (r.f0 + r.f1)) (r.f0 + r.f1 - mn (mx t r.f0) (r.f0 + r.f1)) r.f2) = true ∧
    endOf 0 (addP (addP (addP out r.f0 (mn (mx f r.f0) (r.f0 + r.f1) - r.f0) r.f2) (mn (mx f r.f0) (r.f0 + r.f1)) (mn (mx t r.f0) (r.f0 + r.f1) - mn (mx f r.f0) (r.f0 + r.f1)) st) (mn (mx t r.f0) (r.f0 + r.f1)) (r.f0 + r.f1 - mn (mx t r.f0) (r.f0 + r.f1)) r.f2) = r.f0 + r.f1 ∧
    ∀ x, stAt 0 (addP (addP (addP out r.f0 (mn (mx f r.f0) (r.f0 + r.f1) - r.f0) r.f2) (mn (mx f r.f0) (r.f0 + r.f1)) (mn (mx t r.f0) (r.f0 + r.f1) - mn (mx f r.f0) (r.f0 + r.f1)) st) (mn (mx t r.f0) (r.f0 + r.f1)) (r.f0 + r.f1 - mn (mx t r.f0) (r.f0 + r.f1)) r.f2) x =
      if r.f0 ≤ x ∧ x < r.f0 + r.f1 then some (if f ≤ x ∧ x < t then st else r.f2) else stAt 0 out x := by
  obtain ⟨ca0, ca1, ca2⟩ := clamp f r.f0 (r.f0 + r.f1) (by omega)
  obtain ⟨cb0, cb1, cb2⟩ := clamp t r.f0 (r.f0 + r.f1) (by omega)
  have cab := clamp_le f t r.f0 (r.f0 + r.f1) hft
  obtain ⟨e, he⟩ : ∃ e, r.f0 + r.f1 = e := ⟨_, rfl⟩
  rw [he] at ca0 ca1 ca2 cb0 cb1 cb2 cab h2 ⊢
  obtain ⟨a, ha⟩ : ∃ a, mn (mx f r.f0) e = a := ⟨_, rfl⟩
  obtain ⟨b, hb⟩ : ∃ b, mn (mx t r.f0) e = b := ⟨_, rfl⟩
  rw [ha] at ca0 ca1 ca2 cab ⊢
  rw [hb] at cb0 cb1 cb2 cab ⊢
  have q1 := push_eq h (a - r.f0) r.f2 (by rw [hE]; omega)
  rw [hE] at q1
  obtain ⟨m1, n1, s1⟩ := addP_may h hE (n := a - r.f0) (st := r.f2) (fun _ => hr) (by omega)
  have E1 : endOf 0 (addP out r.f0 (a - r.f0) r.f2) = a := by rw [n1]; split <;> omega
  have q2 := push_eq m1 (b - a) st (by rw [E1]; omega)
  rw [E1] at q2
  obtain ⟨m2, n2, s2⟩ := addP_may m1 E1 (n := b - a) (st := st) (fun _ => hs) (by omega)
  have E2 : endOf 0 (addP (addP out r.f0 (a - r.f0) r.f2) a (b - a) st) = b := by rw [n2]; split <;> omega
  have q3 := push_eq m2 (e - b) r.f2 (by rw [E2]; omega)
  rw [E2] at q3
  obtain ⟨m3, n3, s3⟩ := addP_may m2 E2 (n := e - b) (st := r.f2) (fun _ => hr) (by omega)
  refine ⟨q1, q2, q3, m3, by rw [n3]; split <;> omega, fun x => ?_⟩
  rw [s3 x, s2 x, s1 x]
  by_cases c0 : r.f0 ≤ x ∧ x < e
  · have wa := ca2 x c0.1 c0.2
    have wb := cb2 x c0.1 c0.2
    rw [if_pos c0]
    by_cases d1 : x < a
    · have : x < f := wa.1 d1
      rw [if_neg (by omega), if_neg (by omega), if_pos (by omega), if_neg (by omega)]
    · have d1' : ¬ x < f := fun hh => d1 (wa.2 hh)
      by_cases d2 : x < b
      · have : x < t := wb.1 d2
        rw [if_neg (by omega), if_pos (by omega), if_pos (by omega)]
      · have d2' : ¬ x < t := fun hh => d2 (wb.2 hh)
        rw [if_pos (by omega), if_neg (by omega)]
  · rw [if_neg c0, if_neg (by omega), if_neg (by omega), if_neg (by omega)]

theorem set_ev (l : List S33) (hl : mayL 0 none l = true) (f t st : Int) (_hf : 0 ≤ f) (hft : f ≤ t) (_ht : t ≤ 1099511627776) (hs : isS st = true) : ∀ (rs : List S33) (i : Nat) (out : List S33) (p : Option Int) (E : Int), l.drop i = rs → mayL 0 none out = true → endOf 0 out = E → 0 ≤ E → E ≤ 1099511627776 → mayL E p rs = true →
    Ev (fun k => region_Set.l0 k st f t out l (l.length : Int) (i : Int)) (setL f t st out rs) ∧ mayL 0 none (setL f t st out rs) = true ∧ endOf 0 (setL f t st out rs) = endOf E rs ∧
    ∀ x, stAt 0 (setL f t st out rs) x = if E ≤ x ∧ x < endOf E rs then (stAt E rs x).map (fun s => if f ≤ x ∧ x < t then st else s) else stAt 0 out x := by
  have hlen := (mayL_end hl (by omega))
  intro rs
  induction rs with
  | nil =>
    intro i out p E h hm hE h0 h1 hr
    have hge := drop_nil_ge h
    refine ⟨Ev.step (f := fun _ => some out) (fun k => ?_) (Ev.now _), hm, by rw [setL, hE]; rfl, fun x => ?_⟩
    · simp only [region_Set.l0]
      rw [if_neg (by omega)]
    · show stAt 0 out x = _
      rw [if_neg (by simp only [endOf]; omega)]
  | cons r rs ih =>
    intro i out p E h hm hE h0 h1 hr
    have hlt := drop_lt h
    have hn := drop_succ h
    have hrd := rd_at l i r rs h
    obtain ⟨g1, g2, g3, g4, g5, g6⟩ := mayL_cons hr
    have hend := mayL_end g6 (by omega)
    obtain rfl := g1
    obtain ⟨q1, q2, q3, m3, E3, s3⟩ := round_may (f := f) (t := t) (st := st) hm hE g2 (by omega) g4 hs hft
    obtain ⟨ca0, ca1, ca2⟩ := clamp f r.f0 (r.f0 + r.f1) (by omega)
    obtain ⟨cb0, cb1, cb2⟩ := clamp t r.f0 (r.f0 + r.f1) (by omega)
    have cab := clamp_le f t r.f0 (r.f0 + r.f1) hft
    obtain ⟨i1, i2, i3, i4⟩ := ih (i + 1) _ _ (r.f0 + r.f1) hn m3 E3 (by omega) (by omega) g6
    refine ⟨?_, i2, by rw [setL]; exact i3.trans rfl, fun x => ?_⟩
    · refine Ev.step (f := fun k => region_Set.l0 k st f t (addP (addP (addP out r.f0 (mn (mx f r.f0) (r.f0 + r.f1) - r.f0) r.f2) (mn (mx f r.f0) (r.f0 + r.f1)) (mn (mx t r.f0) (r.f0 + r.f1) - mn (mx f r.f0) (r.f0 + r.f1)) st) (mn (mx t r.f0) (r.f0 + r.f1)) (r.f0 + r.f1 - mn (mx t r.f0) (r.f0 + r.f1)) r.f2) l (l.length : Int) ((i : Int) + 1)) (fun k => ?_) (by rw [show ((i : Int) + 1) = ((i + 1 : Nat) : Int) from by omega]; exact i1)
      simp only [region_Set.l0]
      rw [if_pos (by omega), if_pos (by omega), if_pos (by omega), hrd, wrap_in (x := r.f0 + r.f1) (by omega) (by omega), wrap_in (x := mn (mx f r.f0) (r.f0 + r.f1) - r.f0) (by omega) (by omega), q1]
      simp only [Option.bind_some]
      rw [wrap_in (x := mn (mx t r.f0) (r.f0 + r.f1) - mn (mx f r.f0) (r.f0 + r.f1)) (by omega) (by omega), q2]
      simp only [Option.bind_some]
      rw [wrap_in (x := r.f0 + r.f1 - mn (mx t r.f0) (r.f0 + r.f1)) (by omega) (by omega), q3]
      simp only [Option.bind_some]
      rw [wrap_in (x := (i : Int) + 1) (by omega) (by omega)]
    · rw [setL]
      refine (i4 x).trans ?_
      rw [s3 x]
      show _ = if r.f0 ≤ x ∧ x < endOf (r.f0 + r.f1) rs then ((if x < r.f0 then none else if x < r.f0 + r.f1 then some r.f2 else stAt (r.f0 + r.f1) rs x).map (fun s => if f ≤ x ∧ x < t then st else s)) else stAt 0 out x
      obtain ⟨Z, hZ⟩ : ∃ Z, endOf (r.f0 + r.f1) rs = Z := ⟨_, rfl⟩
      rw [hZ] at hend ⊢
      by_cases d1 : r.f0 + r.f1 ≤ x ∧ x < Z
      · rw [if_pos d1, if_pos (by omega), if_neg (by omega), if_neg (by omega)]
      · rw [if_neg d1]
        by_cases d2 : r.f0 ≤ x ∧ x < r.f0 + r.f1
        · rw [if_pos d2, if_pos (show r.f0 ≤ x ∧ x < Z by omega), if_neg (show ¬ x < r.f0 by omega), if_pos (show x < r.f0 + r.f1 by omega)]
          rfl
        · rw [if_neg d2, if_neg (show ¬ (r.f0 ≤ x ∧ x < Z) by omega)]

theorem stAt_none_out {l : List S33} (h : mayL 0 none l = true) (x : Int) (hx : ¬ (0 ≤ x ∧ x < endOf 0 l)) : stAt 0 l x = none := stAt_out h x (by omega)

/-- What Set makes of regions that may be. -/
def setM (l : List S33) (pos n st : Int) : List S33 := setL (mn pos (endOf 0 l)) (mn pos (endOf 0 l) + mn n (endOf 0 l - mn pos (endOf 0 l))) st [] l
theorem mn_le (x y : Int) : mn x y ≤ x ∧ mn x y ≤ y ∧ (mn x y = x ∨ mn x y = y) := by unfold mn; split <;> omega
theorem mx_ge (x y : Int) : x ≤ mx x y ∧ y ≤ mx x y ∧ (mx x y = x ∨ mx x y = y) := by unfold mx; split <;> omega

theorem set_may {l : List S33} (hl : mayL 0 none l = true) {pos n st : Int} (hp : 0 ≤ pos) (hn : 0 ≤ n) (hs : isS st = true) :
    Ev (fun k => region_Set.f k l pos n st) (setM l pos n st) ∧ mayL 0 none (setM l pos n st) = true ∧ endOf 0 (setM l pos n st) = endOf 0 l ∧
    ∀ x, stAt 0 (setM l pos n st) x = (stAt 0 l x).map (fun s => if pos ≤ x ∧ x < pos + n then st else s) := by
  have hb := mayL_end hl (by omega)
  have h1 := mn_le pos (endOf 0 l)
  have h2 := mn_le n (endOf 0 l - mn pos (endOf 0 l))
  obtain ⟨e1, e2, e3, e4⟩ := set_ev l hl (mn pos (endOf 0 l)) (mn pos (endOf 0 l) + mn n (endOf 0 l - mn pos (endOf 0 l))) st (by omega) (by omega) (by omega) hs l 0 [] none 0 rfl rfl rfl (by omega) (by omega) hl
  refine ⟨?_, e2, e3, fun x => ?_⟩
  · unfold region_Set.f
    refine Ev.bind (may l (by omega)) ?_
    rw [hl]
    simp only [if_true]
    rw [show (fun k => if pos < 0 then region_Set.j0 k l pos n st true else if n < 0 then region_Set.j0 k l pos n st true else (region_Is.f st).bind fun t125 => region_Set.j0 k l pos n st (!t125)) = fun k => region_Set.j0 k l pos n st false from by
      funext k
      rw [if_neg (by omega), if_neg (by omega), is_eq, hs]
      rfl]
    refine Ev.step (f := fun k => region_Set.l0 k st (mn pos (endOf 0 l)) (mn pos (endOf 0 l) + mn n (endOf 0 l - mn pos (endOf 0 l))) [] l (l.length : Int) 0) (fun k => ?_) e1
    simp only [region_Set.j0, Bool.false_eq_true, if_false]
    rw [end_may hl]
    simp only [Option.bind_some]
    rw [wrap_in (x := endOf 0 l - mn pos (endOf 0 l)) (by omega) (by omega), wrap_in (x := mn pos (endOf 0 l) + mn n (endOf 0 l - mn pos (endOf 0 l))) (by omega) (by omega)]
  · refine (e4 x).trans ?_
    by_cases c : 0 ≤ x ∧ x < endOf 0 l
    · rw [if_pos c]
      congr 1
      funext s
      by_cases d : pos ≤ x ∧ x < pos + n
      · rw [if_pos d, if_pos (by omega)]
      · rw [if_neg d, if_neg (by omega)]
    · rw [if_neg c, stAt_none_out hl x c]
      rfl
/-- .. and of others: they stay. -/
theorem set_no {l : List S33} (hlen : l.length ≤ 1000000) {pos n st : Int} (h : mayL 0 none l = false ∨ pos < 0 ∨ n < 0 ∨ isS st = false) : Ev (fun k => region_Set.f k l pos n st) l := by
  have hclone : api_Region_54.f l = some l := by
    unfold api_Region_54.f
    simp only [Option.bind_some, List.length_nil, List.nil_append]
    rw [if_pos (by omega)]
  have hj : Ev (fun k => region_Set.j0 k l pos n st true) l := by
    refine Ev.step (f := fun _ => some l) (fun k => ?_) (Ev.now _)
    simp only [region_Set.j0, if_true]
    rw [hclone]; rfl
  unfold region_Set.f
  refine Ev.bind (may l (by omega)) ?_
  cases hm : mayL 0 none l with
  | false => simpa using hj
  | true =>
    simp only [if_true]
    by_cases c1 : pos < 0
    · simpa [c1] using hj
    · by_cases c2 : n < 0
      · simpa [c1, c2] using hj
      · have : isS st = false := by simp_all
        simp only [c1, c2, if_false, is_eq, this, Option.bind_some, Bool.not_false]
        exact hj

theorem end_ev (l : List S33) (hl : l.length ≤ 4611686018427387904) : Ev (fun k => region_End.f k l) (if mayL 0 none l = true then endOf 0 l else 0) := by
  unfold region_End.f
  refine Ev.bind (may l hl) ?_
  cases hm : mayL 0 none l with
  | false => exact Ev.now _
  | true => simp only [if_true, end_may hm, Option.bind_some]; exact Ev.now _
end Go.Proofs.Ytnoilinjlelpaaa.Reg
end

section
namespace Go.Proofs.Ytnoilinjlelpaaa.Reg
open Go.RowKit Go.Proofs.YtnoilinjlelpaaaW.PrintWords Go.Proofs.YtnoilinjlelpaaaW.PrintLast Go.Proofs.YtnoilinjlelpaaaW.PrintMore Go.Proofs.Ytnoilinjlelpaaa.P
theorem same_ev (l : List S33) (hl : l.length ≤ 4611686018427387904) : ∀ (t : List S33) (i : Nat), l.drop i = t → Ev (fun k => salvorref16_SameRegions.l0 k l l (i : Int)) true := by
  intro t
  induction t with
  | nil =>
    intro i h
    have hge := drop_nil_ge h
    refine Ev.step (f := fun _ => some true) (fun k => ?_) (Ev.now _)
    simp only [salvorref16_SameRegions.l0]
    rw [if_neg (by omega)]
  | cons r t ih =>
    intro i h
    have hlt := drop_lt h
    refine Ev.step (f := fun k => salvorref16_SameRegions.l0 k l l ((i + 1 : Nat) : Int)) (fun k => ?_) (ih (i + 1) (drop_succ h))
    simp only [salvorref16_SameRegions.l0]
    rw [if_pos (by omega), if_pos (by omega), if_pos (by omega), wrap_in (x := (i : Int) + 1) (by omega) (by omega)]
    simp
theorem same_self (l : List S33) (hl : l.length ≤ 4611686018427387904) : Ev (fun k => salvorref16_SameRegions.f k l l) true := by
  unfold salvorref16_SameRegions.f
  simp only [if_true]
  exact same_ev l hl l 0 rfl

end Go.Proofs.Ytnoilinjlelpaaa.Reg
end

section
namespace Go.Proofs.Ytnoilinjlelpaaa.Reg
open Go.RowKit Go.Proofs.YtnoilinjlelpaaaW.PrintWords Go.Proofs.YtnoilinjlelpaaaW.PrintLast Go.Proofs.YtnoilinjlelpaaaW.PrintMore Go.Proofs.Ytnoilinjlelpaaa.P
theorem status_eq (c : Int) : salvorref16_status.f c = some (isS c) := by
  unfold salvorref16_status.f isS
  by_cases h1 : c = 63 <;> by_cases h2 : c = 42 <;> by_cases h3 : c = 47 <;> by_cases h4 : c = 45 <;> by_cases h5 : c = 43 <;> simp_all

theorem mayref_ev (l : List S33) (hl : l.length ≤ 4611686018427387904) : ∀ (t : List S33) (i : Nat) (e : Int), l.drop i = t → 0 ≤ e → e ≤ 1099511627776 →
    Ev (fun k => salvorref16_MayRegions.l0 k l e (i : Int)) (mayL e (prev l i) t) := by
  intro t
  induction t with
  | nil =>
    intro i e h h0 h1
    have hge := drop_nil_ge h
    refine Ev.step (f := fun _ => some true) (fun k => ?_) (Ev.now _)
    simp only [salvorref16_MayRegions.l0]
    rw [if_neg (by omega)]
  | cons r t ih =>
    intro i e h h0 h1
    have hlt := drop_lt h
    have hr := rd_at l i r t h
    have hn := drop_succ h
    have key : ∀ k, salvorref16_MayRegions.l0 (k + 1) l e (i : Int) =
        salvorref16_MayRegions.j1 k l e (i : Int) (!(decide (r.f0 = e) && decide (1 ≤ r.f1) && decide (r.f1 ≤ 1099511627776 - e) && isS r.f2 && decide (prev l i ≠ some r.f2))) := by
      intro k
      simp only [salvorref16_MayRegions.l0]
      rw [if_pos (by omega), if_pos (by omega), hr]
      by_cases c1 : r.f0 = e
      · rw [if_pos c1]
        by_cases c2 : r.f1 < 1
        · rw [if_pos c2]; simp [c1, show ¬ 1 ≤ r.f1 from by omega]
        · rw [if_neg c2, wrap_in (x := 1099511627776 - e) (by omega) (by omega)]
          by_cases c3 : r.f1 > 1099511627776 - e
          · rw [if_pos c3]; simp [c1, show ¬ r.f1 ≤ 1099511627776 - e from by omega]
          · rw [if_neg c3, status_eq, wrap_in (x := (i : Int) - 1) (by omega) (by omega)]
            simp only [Option.bind_some]
            cases hs : isS r.f2 with
            | false => simp [c1]
            | true =>
              simp only [if_true]
              by_cases c4 : (i : Int) > 0
              · rw [if_pos c4, if_pos (by omega), if_pos (by omega)]
                have hi : i ≠ 0 := by omega
                simp only [prev, hi, if_false]
                by_cases c5 : (rd_T33 l ((i : Int) - 1)).f2 = r.f2
                · simp [c5]
                · rw [beq_eq_false_iff_ne.mpr c5]
                  simp [c1, c5, show 1 ≤ r.f1 from by omega, show r.f1 ≤ 1099511627776 - e from by omega]
              · rw [if_neg c4]
                have hi : i = 0 := by omega
                simp [prev, hi, c1, show 1 ≤ r.f1 from by omega, show r.f1 ≤ 1099511627776 - e from by omega]
      · rw [if_neg c1]; simp [c1]
    by_cases hc : (decide (r.f0 = e) && decide (1 ≤ r.f1) && decide (r.f1 ≤ 1099511627776 - e) && isS r.f2 && decide (prev l i ≠ some r.f2)) = true
    · have hb : 1 ≤ r.f1 ∧ r.f1 ≤ 1099511627776 - e := by simp only [Bool.and_eq_true, decide_eq_true_eq] at hc; omega
      have ih' := ih (i + 1) (e + r.f1) hn (by omega) (by omega)
      have hpv : prev l (i + 1) = some r.f2 := by simp [prev, hr]
      rw [hpv] at ih'
      rw [mayL, hc, Bool.true_and]
      refine Ev.step (f := fun k => salvorref16_MayRegions.j1 k l e (i : Int) false) (fun k => by rw [key k, hc]; rfl) ?_
      refine Ev.step (f := fun k => salvorref16_MayRegions.l0 k l (e + r.f1) ((i : Int) + 1)) (fun k => ?_) ?_
      · simp only [salvorref16_MayRegions.j1, Bool.false_eq_true, if_false]
        rw [if_pos (by omega), if_pos (by omega), hr, wrap_in (x := e + r.f1) (by omega) (by omega), wrap_in (x := (i : Int) + 1) (by omega) (by omega)]
      · have e1 : (((i + 1 : Nat) : Int)) = (i : Int) + 1 := by omega
        rw [e1] at ih'
        exact ih'
    · rw [mayL, Bool.eq_false_iff.mpr hc, Bool.false_and]
      refine Ev.step (f := fun k => salvorref16_MayRegions.j1 k l e (i : Int) true) (fun k => by rw [key k, Bool.eq_false_iff.mpr hc]; rfl) ?_
      exact Ev.step (f := fun _ => some false) (fun k => by simp [salvorref16_MayRegions.j1]) (Ev.now _)

theorem mayref (l : List S33) (hl : l.length ≤ 4611686018427387904) : Ev (fun k => salvorref16_MayRegions.f k l) (mayL 0 none l) := by
  have := mayref_ev l hl l 0 0 rfl (by omega) (by omega)
  simpa [prev, salvorref16_MayRegions.f] using this
theorem endref_ev (l : List S33) (hl : l.length ≤ 4611686018427387904) : Ev (fun k => salvorref16_End.f k l) (if mayL 0 none l = true then endOf 0 l else 0) := by
  unfold salvorref16_End.f
  refine Ev.bind (mayref l hl) ?_
  cases hm : mayL 0 none l with
  | false => exact Ev.now _
  | true =>
    have he := end_may hm
    unfold region_end.f at he
    simp only [if_true, he]
    exact Ev.now _
end Go.Proofs.Ytnoilinjlelpaaa.Reg
end

section
namespace Go.Proofs.Ytnoilinjlelpaaa.Reg
open Go.RowKit Go.Proofs.YtnoilinjlelpaaaW.PrintWords Go.Proofs.YtnoilinjlelpaaaW.PrintLast Go.Proofs.YtnoilinjlelpaaaW.PrintMore Go.Proofs.Ytnoilinjlelpaaa.P

theorem may_mem {e : Int} {p : Option Int} {l : List S33} (h : mayL e p l = true) (he : e ≤ 1099511627776) : ∀ r ∈ l, e ≤ r.f0 ∧ 1 ≤ r.f1 ∧ r.f0 + r.f1 ≤ 1099511627776 ∧ isS r.f2 = true := by
  induction l generalizing e p with
  | nil => simp
  | cons q t ih =>
    obtain ⟨g1, g2, g3, g4, g5, g6⟩ := mayL_cons h
    intro r hr
    rcases List.mem_cons.1 hr with rfl | hr
    · exact ⟨by omega, g2, by omega, g4⟩
    · obtain ⟨k1, k2, k3, k4⟩ := ih g6 (by omega) r hr
      exact ⟨by omega, k2, k3, k4⟩
theorem rd_mem {l : List S33} {i : Nat} (h : i < l.length) : rd_T33 l (i : Int) ∈ l := by
  unfold rd_T33
  simp [List.getD, h]

def atL (x : Int) : List S33 → Int × Int × Int × Bool
  | [] => (0, 0, 0, false)
  | r :: t => if x ≥ r.f0 ∧ x < r.f0 + r.f1 then (r.f0, r.f1, r.f2, true) else atL x t
def firstL (st x : Int) : List S33 → Int × Int × Int × Bool
  | [] => (0, 0, 0, false)
  | r :: t => if r.f2 = st ∧ x < r.f0 + r.f1 then (mx r.f0 x, r.f0 + r.f1 - mx r.f0 x, st, true) else firstL st x t

theorem at_ev' (l : List S33) (hl : mayL 0 none l = true) (x : Int) : ∀ (t : List S33) (i : Nat), l.drop i = t → Ev (fun k => region_At.l0 k x l (l.length : Int) (i : Int)) (atL x t) := by
  have hb := mayL_end hl (by omega)
  intro t
  induction t with
  | nil =>
    intro i h
    have hge := drop_nil_ge h
    refine Ev.step (f := fun _ => some (0, 0, 0, false)) (fun k => ?_) (Ev.now _)
    simp only [region_At.l0]
    rw [if_neg (by omega)]
  | cons r t ih =>
    intro i h
    have hlt := drop_lt h
    have hr := rd_at l i r t h
    have hm := may_mem hl (by omega) r (by rw [← hr]; exact rd_mem hlt)
    have key : ∀ k, region_At.l0 (k + 1) x l (l.length : Int) (i : Int) = if x ≥ r.f0 ∧ x < r.f0 + r.f1 then some (r.f0, r.f1, r.f2, true) else region_At.l0 k x l (l.length : Int) ((i + 1 : Nat) : Int) := by
      intro k
      simp only [region_At.l0]
      rw [if_pos (by omega), if_pos (by omega), if_pos (by omega), hr, wrap_in (x := r.f0 + r.f1) (by omega) (by omega), wrap_in (x := (i : Int) + 1) (by omega) (by omega)]
      by_cases c1 : x ≥ r.f0
      · rw [if_pos c1]
        by_cases c2 : x < r.f0 + r.f1
        · rw [if_pos c2, if_pos ⟨c1, c2⟩]
        · rw [if_neg c2, if_neg (fun hh => c2 hh.2)]; rfl
      · rw [if_neg c1, if_neg (fun hh => c1 hh.1)]; rfl
    rw [atL]
    by_cases c : x ≥ r.f0 ∧ x < r.f0 + r.f1
    · rw [if_pos c]
      exact Ev.step (f := fun _ => some (r.f0, r.f1, r.f2, true)) (fun k => by rw [key k, if_pos c]) (Ev.now _)
    · rw [if_neg c]
      exact Ev.step (f := fun k => region_At.l0 k x l (l.length : Int) ((i + 1 : Nat) : Int)) (fun k => by rw [key k, if_neg c]) (ih (i + 1) (drop_succ h))
theorem at_ev (l : List S33) (hl : l.length ≤ 4611686018427387904) (x : Int) : Ev (fun k => region_At.f k l x) (if mayL 0 none l = true then atL x l else (0, 0, 0, false)) := by
  unfold region_At.f
  refine Ev.bind (may l hl) ?_
  cases hm : mayL 0 none l with
  | false => exact Ev.now _
  | true => simp only [if_true]; exact at_ev' l hm x l 0 rfl

theorem first_ev' (l : List S33) (hl : mayL 0 none l = true) (st x : Int) (hx : -9223372036854775808 ≤ x) : ∀ (t : List S33) (i : Nat), l.drop i = t → Ev (fun k => region_First.l0 k st x l (l.length : Int) (i : Int)) (firstL st x t) := by
  have hb := mayL_end hl (by omega)
  intro t
  induction t with
  | nil =>
    intro i h
    have hge := drop_nil_ge h
    refine Ev.step (f := fun _ => some (0, 0, 0, false)) (fun k => ?_) (Ev.now _)
    simp only [region_First.l0]
    rw [if_neg (by omega)]
  | cons r t ih =>
    intro i h
    have hlt := drop_lt h
    have hr := rd_at l i r t h
    have hm := may_mem hl (by omega) r (by rw [← hr]; exact rd_mem hlt)
    have key : ∀ k, region_First.l0 (k + 1) st x l (l.length : Int) (i : Int) = if r.f2 = st ∧ x < r.f0 + r.f1 then some (mx r.f0 x, r.f0 + r.f1 - mx r.f0 x, st, true) else region_First.l0 k st x l (l.length : Int) ((i + 1 : Nat) : Int) := by
      intro k
      have hmx := mx_ge r.f0 x
      simp only [region_First.l0]
      rw [if_pos (by omega), if_pos (by omega), if_pos (by omega), hr, wrap_in (x := r.f0 + r.f1) (by omega) (by omega), wrap_in (x := (i : Int) + 1) (by omega) (by omega)]
      by_cases c1 : r.f2 = st
      · rw [if_pos c1]
        by_cases c2 : r.f0 + r.f1 > x
        · rw [if_pos c2, if_pos ⟨c1, c2⟩, wrap_in (x := r.f0 + r.f1 - mx r.f0 x) (by omega) (by omega)]
        · rw [if_neg c2, if_neg (fun hh => c2 hh.2)]; rfl
      · rw [if_neg c1, if_neg (fun hh => c1 hh.1)]; rfl
    rw [firstL]
    by_cases c : r.f2 = st ∧ x < r.f0 + r.f1
    · rw [if_pos c]
      exact Ev.step (f := fun _ => some (mx r.f0 x, r.f0 + r.f1 - mx r.f0 x, st, true)) (fun k => by rw [key k, if_pos c]) (Ev.now _)
    · rw [if_neg c]
      exact Ev.step (f := fun k => region_First.l0 k st x l (l.length : Int) ((i + 1 : Nat) : Int)) (fun k => by rw [key k, if_neg c]) (ih (i + 1) (drop_succ h))
theorem first_ev (l : List S33) (hl : l.length ≤ 4611686018427387904) (st x : Int) (hx : -9223372036854775808 ≤ x) : Ev (fun k => region_First.f k l st x) (if mayL 0 none l = true then firstL st x l else (0, 0, 0, false)) := by
  unfold region_First.f
  refine Ev.bind (may l hl) ?_
  cases hm : mayL 0 none l with
  | false => exact Ev.now _
  | true => simp only [if_true]; exact first_ev' l hm st x hx l 0 rfl
theorem last_ev (l : List S33) (hl : l.length ≤ 4611686018427387904) (st x : Int) : Ev (fun k => region_Last.f k l st x) (if mayL 0 none l = true then region_Last.g l st x l.length else (0, 0, 0, false)) := by
  unfold region_Last.f
  exact Ev.bind (may l hl) (Ev.now _)
end Go.Proofs.Ytnoilinjlelpaaa.Reg
end

section
namespace Go.Proofs.Ytnoilinjlelpaaa.Reg
open Go.RowKit Go.Proofs.YtnoilinjlelpaaaW.PrintWords Go.Proofs.YtnoilinjlelpaaaW.PrintLast Go.Proofs.YtnoilinjlelpaaaW.PrintMore Go.Proofs.Ytnoilinjlelpaaa.P
theorem atref_ev' (l : List S33) (hl : mayL 0 none l = true) (x : Int) : ∀ (t : List S33) (i : Nat), l.drop i = t → Ev (fun k => salvorref16_At.l0 k l x (i : Int)) (atL x t) := by
  have hb := mayL_end hl (by omega)
  intro t
  induction t with
  | nil =>
    intro i h
    have hge := drop_nil_ge h
    refine Ev.step (f := fun k => salvorref16_At.j1 k l x (i : Int) false) (fun k => ?_) (Ev.step (f := fun _ => some (0, 0, 0, false)) (fun k => ?_) (Ev.now _))
    · simp only [salvorref16_At.l0]
      rw [if_neg (by omega)]
    · simp [salvorref16_At.j1]
  | cons r t ih =>
    intro i h
    have hlt := drop_lt h
    have hr := rd_at l i r t h
    have hm := may_mem hl (by omega) r (by rw [← hr]; exact rd_mem hlt)
    have key : ∀ k, salvorref16_At.j1 (k + 1) l x (i : Int) true = if x ≥ r.f0 ∧ x < r.f0 + r.f1 then some (r.f0, r.f1, r.f2, true) else salvorref16_At.l0 k l x ((i + 1 : Nat) : Int) := by
      intro k
      simp only [salvorref16_At.j1, if_true]
      rw [if_pos (by omega), if_pos (by omega), hr, wrap_in (x := r.f0 + r.f1) (by omega) (by omega), wrap_in (x := (i : Int) + 1) (by omega) (by omega)]
      by_cases c1 : x ≥ r.f0
      · rw [if_pos c1]
        by_cases c2 : x < r.f0 + r.f1
        · rw [if_pos c2, if_pos ⟨c1, c2⟩]
        · rw [if_neg c2, if_neg (fun hh => c2 hh.2)]; rfl
      · rw [if_neg c1, if_neg (fun hh => c1 hh.1)]; rfl
    refine Ev.step (f := fun k => (salvorref16_MayRegions.f k l).bind fun b => salvorref16_At.j1 k l x (i : Int) b) (fun k => ?_) (Ev.bind (mayref l (by omega)) ?_)
    · simp only [salvorref16_At.l0]
      rw [if_pos (by omega)]
    · rw [hl, atL]
      by_cases c : x ≥ r.f0 ∧ x < r.f0 + r.f1
      · rw [if_pos c]
        exact Ev.step (f := fun _ => some (r.f0, r.f1, r.f2, true)) (fun k => by rw [key k, if_pos c]) (Ev.now _)
      · rw [if_neg c]
        exact Ev.step (f := fun k => salvorref16_At.l0 k l x ((i + 1 : Nat) : Int)) (fun k => by rw [key k, if_neg c]) (ih (i + 1) (drop_succ h))
theorem atref_ev (l : List S33) (hl : l.length ≤ 4611686018427387904) (x : Int) : Ev (fun k => salvorref16_At.f k l x) (if mayL 0 none l = true then atL x l else (0, 0, 0, false)) := by
  unfold salvorref16_At.f
  cases hm : mayL 0 none l with
  | true => simp only [if_true]; exact atref_ev' l hm x l 0 rfl
  | false =>
    simp only [Bool.false_eq_true, if_false]
    have hj : Ev (fun k => salvorref16_At.j1 k l x 0 false) (0, 0, 0, false) := Ev.step (f := fun _ => some (0, 0, 0, false)) (fun k => by simp [salvorref16_At.j1]) (Ev.now _)
    by_cases c : 0 < (l.length : Int)
    · refine Ev.step (f := fun k => (salvorref16_MayRegions.f k l).bind fun b => salvorref16_At.j1 k l x 0 b) (fun k => ?_) (Ev.bind (mayref l hl) (by rw [hm]; exact hj))
      simp only [salvorref16_At.l0]
      rw [if_pos c]
    · refine Ev.step (f := fun k => salvorref16_At.j1 k l x 0 false) (fun k => ?_) hj
      simp only [salvorref16_At.l0]
      rw [if_neg c]
end Go.Proofs.Ytnoilinjlelpaaa.Reg
end

section
namespace Go.Proofs.Ytnoilinjlelpaaa.Reg
open Go.RowKit Go.Proofs.YtnoilinjlelpaaaW.PrintWords Go.Proofs.YtnoilinjlelpaaaW.PrintLast Go.Proofs.YtnoilinjlelpaaaW.PrintMore Go.Proofs.Ytnoilinjlelpaaa.P

theorem firstref_ev' (l : List S33) (hl : mayL 0 none l = true) (st x : Int) (hx : -9223372036854775808 ≤ x) : ∀ (t : List S33) (i : Nat), l.drop i = t → Ev (fun k => salvorref16_First.l0 k l st x (i : Int)) (firstL st x t) := by
  have hb := mayL_end hl (by omega)
  intro t
  induction t with
  | nil =>
    intro i h
    have hge := drop_nil_ge h
    refine Ev.step (f := fun k => salvorref16_First.j1 k l st x (i : Int) false) (fun k => ?_) (Ev.step (f := fun _ => some (0, 0, 0, false)) (fun k => ?_) (Ev.now _))
    · simp only [salvorref16_First.l0]
      rw [if_neg (by omega)]
    · simp [salvorref16_First.j1]
  | cons r t ih =>
    intro i h
    have hlt := drop_lt h
    have hr := rd_at l i r t h
    have hm := may_mem hl (by omega) r (by rw [← hr]; exact rd_mem hlt)
    have hmx := mx_ge r.f0 x
    have key : ∀ k, salvorref16_First.j1 (k + 1) l st x (i : Int) true = if r.f2 = st ∧ x < r.f0 + r.f1 then some (mx r.f0 x, r.f0 + r.f1 - mx r.f0 x, st, true) else salvorref16_First.l0 k l st x ((i + 1 : Nat) : Int) := by
      intro k
      simp only [salvorref16_First.j1, if_true]
      rw [if_pos (by omega), if_pos (by omega), hr, wrap_in (x := r.f0 + r.f1) (by omega) (by omega), wrap_in (x := (i : Int) + 1) (by omega) (by omega)]
      by_cases c1 : r.f2 = st
      · rw [if_pos c1]
        by_cases c2 : x < r.f0 + r.f1
        · rw [if_pos (show mx r.f0 x < r.f0 + r.f1 by omega), if_pos ⟨c1, c2⟩, wrap_in (x := r.f0 + r.f1 - mx r.f0 x) (by omega) (by omega)]
        · rw [if_neg (show ¬ mx r.f0 x < r.f0 + r.f1 by omega), if_neg (fun hh => c2 hh.2)]; rfl
      · rw [if_neg c1, if_neg (fun hh => c1 hh.1)]; rfl
    refine Ev.step (f := fun k => (salvorref16_MayRegions.f k l).bind fun b => salvorref16_First.j1 k l st x (i : Int) b) (fun k => ?_) (Ev.bind (mayref l (by omega)) ?_)
    · simp only [salvorref16_First.l0]
      rw [if_pos (by omega)]
    · rw [hl, firstL]
      by_cases c : r.f2 = st ∧ x < r.f0 + r.f1
      · rw [if_pos c]
        exact Ev.step (f := fun _ => some (mx r.f0 x, r.f0 + r.f1 - mx r.f0 x, st, true)) (fun k => by rw [key k, if_pos c]) (Ev.now _)
      · rw [if_neg c]
        exact Ev.step (f := fun k => salvorref16_First.l0 k l st x ((i + 1 : Nat) : Int)) (fun k => by rw [key k, if_neg c]) (ih (i + 1) (drop_succ h))
theorem firstref_ev (l : List S33) (hl : l.length ≤ 4611686018427387904) (st x : Int) (hx : -9223372036854775808 ≤ x) : Ev (fun k => salvorref16_First.f k l st x) (if mayL 0 none l = true then firstL st x l else (0, 0, 0, false)) := by
  unfold salvorref16_First.f
  cases hm : mayL 0 none l with
  | true => simp only [if_true]; exact firstref_ev' l hm st x hx l 0 rfl
  | false =>
    simp only [Bool.false_eq_true, if_false]
    have hj : Ev (fun k => salvorref16_First.j1 k l st x 0 false) (0, 0, 0, false) := Ev.step (f := fun _ => some (0, 0, 0, false)) (fun k => by simp [salvorref16_First.j1]) (Ev.now _)
    by_cases c : 0 < (l.length : Int)
    · refine Ev.step (f := fun k => (salvorref16_MayRegions.f k l).bind fun b => salvorref16_First.j1 k l st x 0 b) (fun k => ?_) (Ev.bind (mayref l hl) (by rw [hm]; exact hj))
      simp only [salvorref16_First.l0]
      rw [if_pos c]
    · refine Ev.step (f := fun k => salvorref16_First.j1 k l st x 0 false) (fun k => ?_) hj
      simp only [salvorref16_First.l0]
      rw [if_neg c]

theorem lastref_ev' (l : List S33) (hl : mayL 0 none l = true) (st x : Int) (hx : x ≤ 9223372036854775807) : ∀ n : Nat, n ≤ l.length → Ev (fun k => salvorref16_Last.l0 k l st x ((n : Int) - 1)) (region_Last.g l st x n) := by
  have hb := mayL_end hl (by omega)
  intro n
  induction n with
  | zero =>
    intro _
    refine Ev.step (f := fun k => salvorref16_Last.j1 k l st x (((0 : Nat) : Int) - 1) false) (fun k => ?_) (Ev.step (f := fun _ => some (0, 0, 0, false)) (fun k => ?_) (Ev.now _))
    · simp only [salvorref16_Last.l0]
      rw [if_neg (by omega)]
    · simp [salvorref16_Last.j1]
  | succ n ih =>
    intro hn
    have e1 : ((n + 1 : Nat) : Int) - 1 = (n : Int) := by omega
    rw [e1]
    obtain ⟨r, hr⟩ : ∃ r, rd_T33 l (n : Int) = r := ⟨_, rfl⟩
    have hm := may_mem hl (by omega) r (by rw [← hr]; exact rd_mem (by omega))
    have hmn := mn_le (r.f0 + r.f1) x
    have key : ∀ k, salvorref16_Last.j1 (k + 1) l st x (n : Int) true = if r.f2 = st ∧ r.f0 < x then some (r.f0, mn r.f1 (wrap64 (x - r.f0)), st, true) else salvorref16_Last.l0 k l st x ((n : Int) - 1) := by
      intro k
      simp only [salvorref16_Last.j1, if_true]
      rw [if_pos (by omega), if_pos (by omega), hr, wrap_in (x := r.f0 + r.f1) (by omega) (by omega), wrap_in (x := (n : Int) - 1) (by omega) (by omega)]
      by_cases c1 : r.f2 = st
      · rw [if_pos c1]
        by_cases c2 : r.f0 < x
        · rw [if_pos (show r.f0 < mn (r.f0 + r.f1) x by omega), if_pos ⟨c1, c2⟩, wrap_in (x := mn (r.f0 + r.f1) x - r.f0) (by omega) (by omega), wrap_in (x := x - r.f0) (by omega) (by omega)]
          have : mn (r.f0 + r.f1) x - r.f0 = mn r.f1 (x - r.f0) := by unfold mn; split <;> split <;> omega
          rw [this]
        · rw [if_neg (show ¬ r.f0 < mn (r.f0 + r.f1) x by omega), if_neg (fun hh => c2 hh.2)]
      · rw [if_neg c1, if_neg (fun hh => c1 hh.1)]
    refine Ev.step (f := fun k => (salvorref16_MayRegions.f k l).bind fun b => salvorref16_Last.j1 k l st x (n : Int) b) (fun k => ?_) (Ev.bind (mayref l (by omega)) ?_)
    · simp only [salvorref16_Last.l0]
      rw [if_pos (by omega)]
    · rw [hl, region_Last.g, hr]
      by_cases c : r.f2 = st ∧ r.f0 < x
      · rw [if_pos c]
        exact Ev.step (f := fun _ => some (r.f0, mn r.f1 (wrap64 (x - r.f0)), st, true)) (fun k => by rw [key k, if_pos c]) (Ev.now _)
      · rw [if_neg c]
        exact Ev.step (f := fun k => salvorref16_Last.l0 k l st x ((n : Int) - 1)) (fun k => by rw [key k, if_neg c]) (ih (by omega))
theorem lastref_ev (l : List S33) (hl : l.length ≤ 4611686018427387904) (st x : Int) (hx : x ≤ 9223372036854775807) : Ev (fun k => salvorref16_Last.f k l st x) (if mayL 0 none l = true then region_Last.g l st x l.length else (0, 0, 0, false)) := by
  unfold salvorref16_Last.f
  rw [wrap_in (x := (l.length : Int) - 1) (by omega) (by omega)]
  cases hm : mayL 0 none l with
  | true => simp only [if_true]; exact lastref_ev' l hm st x hx l.length (Nat.le_refl _)
  | false =>
    simp only [Bool.false_eq_true, if_false]
    have hj : Ev (fun k => salvorref16_Last.j1 k l st x ((l.length : Int) - 1) false) (0, 0, 0, false) := Ev.step (f := fun _ => some (0, 0, 0, false)) (fun k => by simp [salvorref16_Last.j1]) (Ev.now _)
    by_cases c : (l.length : Int) - 1 ≥ 0
    · refine Ev.step (f := fun k => (salvorref16_MayRegions.f k l).bind fun b => salvorref16_Last.j1 k l st x ((l.length : Int) - 1) b) (fun k => ?_) (Ev.bind (mayref l hl) (by rw [hm]; exact hj))
      simp only [salvorref16_Last.l0]
      rw [if_pos c]
    · refine Ev.step (f := fun k => salvorref16_Last.j1 k l st x ((l.length : Int) - 1) false) (fun k => ?_) hj
      simp only [salvorref16_Last.l0]
      rw [if_neg c]
end Go.Proofs.Ytnoilinjlelpaaa.Reg
end

section
namespace Go.Proofs.Ytnoilinjlelpaaa.Reg
open Go.RowKit Go.Proofs.YtnoilinjlelpaaaW.PrintWords Go.Proofs.YtnoilinjlelpaaaW.PrintLast Go.Proofs.YtnoilinjlelpaaaW.PrintMore Go.Proofs.Ytnoilinjlelpaaa.P
theorem rdI_at (l : List Int) (i : Nat) (r : Int) (t : List Int) (h : l.drop i = r :: t) : rd l (i : Int) = r := by
  unfold rd
  have h1 : l[i]? = some r := by
    have := List.getElem?_drop (xs := l) (i := i) (j := 0)
    rw [h] at this
    simpa using this.symm
  simp [List.getD, h1]
theorem index_ev (l : List Int) (hl : l.length ≤ 4611686018427387904) (x : Int) : ∀ (t : List Int) (i : Nat), l.drop i = t → ∃ r, Ev (fun k => slices_Index_byte_byte.l0 k l x (l.length : Int) (i : Int)) r ∧ (decide (r ≥ 0)) = t.contains x := by
  intro t
  induction t with
  | nil =>
    intro i h
    have hge := drop_nil_ge h
    refine ⟨-1, Ev.step (f := fun _ => some (-1)) (fun k => ?_) (Ev.now _), by simp⟩
    simp only [slices_Index_byte_byte.l0]
    rw [if_neg (by omega)]
  | cons q t ih =>
    intro i h
    have hlt := drop_lt h
    have hr := rdI_at l i q t h
    by_cases c : x = q
    · refine ⟨i, Ev.step (f := fun _ => some (i : Int)) (fun k => ?_) (Ev.now _), by simp [c]⟩
      simp only [slices_Index_byte_byte.l0]
      rw [if_pos (by omega), if_pos (by omega), if_pos (by omega), hr, if_pos c]
    · obtain ⟨r, h1, h2⟩ := ih (i + 1) (drop_succ h)
      refine ⟨r, Ev.step (f := fun k => slices_Index_byte_byte.l0 k l x (l.length : Int) ((i + 1 : Nat) : Int)) (fun k => ?_) h1, by rw [h2]; simp [c]⟩
      simp only [slices_Index_byte_byte.l0]
      rw [if_pos (by omega), if_pos (by omega), if_pos (by omega), hr, if_neg c, wrap_in (x := (i : Int) + 1) (by omega) (by omega)]
      rfl
theorem contains_ev (l : List Int) (hl : l.length ≤ 4611686018427387904) (x : Int) : Ev (fun k => slices_Contains_byte_byte.f k l x) (l.contains x) := by
  obtain ⟨r, h1, h2⟩ := index_ev l hl x l 0 rfl
  unfold slices_Contains_byte_byte.f slices_Index_byte_byte.f
  refine Ev.bind h1 ?_
  rw [h2]
  exact Ev.now _

/-- The sum of the sizes, as the code reckons. -/
def cntL (ss : List Int) (n : Int) : List S33 → Int
  | [] => n
  | r :: t => cntL ss (if ss = [] ∨ ss.contains r.f2 = true then wrap64 (n + r.f1) else n) t
theorem count_ev' (l : List S33) (hl : l.length ≤ 4611686018427387904) (ss : List Int) (hss : ss.length ≤ 4611686018427387904) : ∀ (t : List S33) (i : Nat) (n : Int), l.drop i = t → Ev (fun k => region_Count.l0 k ss n l (l.length : Int) (i : Int)) (cntL ss n t) := by
  intro t
  induction t with
  | nil =>
    intro i n h
    have hge := drop_nil_ge h
    refine Ev.step (f := fun _ => some n) (fun k => ?_) (Ev.now _)
    simp only [region_Count.l0]
    rw [if_neg (by omega)]
  | cons r t ih =>
    intro i n h
    have hlt := drop_lt h
    have hr := rd_at l i r t h
    have hi := ih (i + 1)
    by_cases c : ss = []
    · refine Ev.step (f := fun k => region_Count.l0 k ss (wrap64 (n + r.f1)) l (l.length : Int) ((i + 1 : Nat) : Int)) (fun k => ?_) ?_
      · simp only [region_Count.l0]
        rw [if_pos (by omega), if_pos (by omega), if_pos (by omega), hr, if_pos (by simp [c]), wrap_in (x := (i : Int) + 1) (by omega) (by omega)]
        rfl
      · rw [cntL, if_pos (.inl c)]
        exact hi _ (drop_succ h)
    · have hne : ¬ (ss.length : Int) = 0 := by
        have : ss.length ≠ 0 := by simpa using c
        omega
      refine Ev.step (f := fun k => (slices_Contains_byte_byte.f k ss r.f2).bind fun b => if b = true then region_Count.l0 k ss (wrap64 (n + r.f1)) l (l.length : Int) ((i + 1 : Nat) : Int) else region_Count.l0 k ss n l (l.length : Int) ((i + 1 : Nat) : Int)) (fun k => ?_) (Ev.bind (contains_ev ss hss r.f2) ?_)
      · simp only [region_Count.l0]
        rw [if_pos (by omega), if_pos (by omega), if_pos (by omega), hr, if_neg hne, wrap_in (x := (i : Int) + 1) (by omega) (by omega)]
        rfl
      · rw [cntL]
        cases hc : ss.contains r.f2 with
        | true => simp only [if_true, or_true]; exact hi _ (drop_succ h)
        | false => simp only [c, Bool.false_eq_true, if_false, or_self]; exact hi _ (drop_succ h)
theorem count_ev (l : List S33) (hl : l.length ≤ 4611686018427387904) (ss : List Int) (hss : ss.length ≤ 4611686018427387904) : Ev (fun k => region_Count.f k l ss) (if mayL 0 none l = true then cntL ss 0 l else 0) := by
  unfold region_Count.f
  refine Ev.bind (may l hl) ?_
  cases hm : mayL 0 none l with
  | false => exact Ev.now _
  | true => simp only [if_true]; exact count_ev' l hl ss hss l 0 0 rfl
end Go.Proofs.Ytnoilinjlelpaaa.Reg
end

section
namespace Go.Proofs.Ytnoilinjlelpaaa.Reg
open Go.RowKit Go.Proofs.YtnoilinjlelpaaaW.PrintWords Go.Proofs.YtnoilinjlelpaaaW.PrintLast Go.Proofs.YtnoilinjlelpaaaW.PrintMore Go.Proofs.Ytnoilinjlelpaaa.P
theorem put_no (l : List S33) (a b st : Int) (h : b ≤ a) : salvorref16_put.f l a b st = some l := by
  unfold salvorref16_put.f
  rw [if_pos h]
theorem put_eq {l : List S33} (h : mayL 0 none l = true) {E : Int} (hE : endOf 0 l = E) (q st : Int) (hq : q ≤ 1099511627776) (hp : E < q) : salvorref16_put.f l E q st = some (addP l E (q - E) st) := by
  have hb := mayL_end h (by omega)
  rw [hE] at hb
  unfold salvorref16_put.f
  rw [if_neg (by omega), wrap_in (x := q - E) (by omega) (by omega)]
  rcases snoc_cases l with rfl | ⟨a, r, rfl⟩
  · rw [addP_nil, if_neg (show ¬ q - E < 1 by omega), if_neg (by simp), if_pos (by simp)]
    rfl
  · obtain ⟨g1, g2, g3, g4, g5, g6, _, _⟩ := may_snoc h (by omega) (by omega)
    rw [hE] at g4
    have hlen : (a.length : Int) + 1 ≤ 1099511627776 := by
      simp only [List.length_append, List.length_cons, List.length_nil] at hb; omega
    have e1 : ((a ++ [r]).length : Int) = (a.length : Int) + 1 := by simp
    rw [addP_snoc, if_neg (show ¬ q - E < 1 by omega), e1, if_pos (by omega), wrap_in (x := (a.length : Int) + 1 - 1) (by omega) (by omega), show (a.length : Int) + 1 - 1 = a.length from by omega, if_pos (by omega), if_pos (by omega), rd_last]
    by_cases c2 : r.f2 = st
    · rw [if_pos c2, if_pos c2, wrap_in (x := r.f1 + (q - E)) (by omega) (by omega)]
      simp
    · rw [if_neg c2, if_neg c2, if_pos (by simp only [List.length_append, List.length_cons, List.length_nil]; omega)]
theorem addP_none (l : List S33) (p n st : Int) (h : n < 1) : addP l p n st = l := by
  unfold addP
  rw [if_pos h]

theorem refset_ev (l : List S33) (hl : mayL 0 none l = true) (f t st : Int) (hft : f ≤ t) (hs : isS st = true) : ∀ (rs : List S33) (i : Nat) (out : List S33) (p : Option Int) (E : Int), l.drop i = rs → mayL 0 none out = true → endOf 0 out = E → 0 ≤ E → E ≤ 1099511627776 → mayL E p rs = true →
    Ev (fun k => salvorref16_Set.l0 k l st f t out (i : Int)) (setL f t st out rs) := by
  have hlen := (mayL_end hl (by omega))
  intro rs
  induction rs with
  | nil =>
    intro i out p E h hm hE h0 h1 hr
    have hge := drop_nil_ge h
    refine Ev.step (f := fun _ => some out) (fun k => ?_) (Ev.now _)
    simp only [salvorref16_Set.l0]
    rw [if_neg (by omega)]
  | cons r rs ih =>
    intro i out p E h hm hE h0 h1 hr
    have hlt := drop_lt h
    have hn := drop_succ h
    have hrd := rd_at l i r rs h
    obtain ⟨g1, g2, g3, g4, g5, g6⟩ := mayL_cons hr
    obtain rfl := g1
    obtain ⟨q1, q2, q3, m3, E3, s3⟩ := round_may (f := f) (t := t) (st := st) hm hE g2 (by omega) g4 hs hft
    obtain ⟨ca0, ca1, ca2⟩ := clamp f r.f0 (r.f0 + r.f1) (by omega)
    obtain ⟨cb0, cb1, cb2⟩ := clamp t r.f0 (r.f0 + r.f1) (by omega)
    have cab := clamp_le f t r.f0 (r.f0 + r.f1) hft
    obtain ⟨m1, n1, _⟩ := addP_may hm hE (n := mn (mx f r.f0) (r.f0 + r.f1) - r.f0) (st := r.f2) (fun _ => g4) (by omega)
    have E1 : endOf 0 (addP out r.f0 (mn (mx f r.f0) (r.f0 + r.f1) - r.f0) r.f2) = mn (mx f r.f0) (r.f0 + r.f1) := by rw [n1]; split <;> omega
    obtain ⟨m2, n2, _⟩ := addP_may m1 E1 (n := mn (mx t r.f0) (r.f0 + r.f1) - mn (mx f r.f0) (r.f0 + r.f1)) (st := st) (fun _ => hs) (by omega)
    have E2 : endOf 0 (addP (addP out r.f0 (mn (mx f r.f0) (r.f0 + r.f1) - r.f0) r.f2) (mn (mx f r.f0) (r.f0 + r.f1)) (mn (mx t r.f0) (r.f0 + r.f1) - mn (mx f r.f0) (r.f0 + r.f1)) st) = mn (mx t r.f0) (r.f0 + r.f1) := by rw [n2]; split <;> omega
    have u1 := mx_ge f r.f0
    have u2 := mx_ge r.f0 f
    have u3 := mn_le (mx f r.f0) (r.f0 + r.f1)
    have u4 := mn_le (r.f0 + r.f1) f
    have u5 := mx_ge t r.f0
    have u6 := mx_ge r.f0 t
    have u7 := mn_le (mx t r.f0) (r.f0 + r.f1)
    have u8 := mn_le (r.f0 + r.f1) t
    have w1 : salvorref16_put.f out r.f0 (mn (r.f0 + r.f1) f) r.f2 = some (addP out r.f0 (mn (mx f r.f0) (r.f0 + r.f1) - r.f0) r.f2) := by
      by_cases c : r.f0 < mn (r.f0 + r.f1) f
      · have : mn (mx f r.f0) (r.f0 + r.f1) = mn (r.f0 + r.f1) f := by omega
        rw [this]
        exact put_eq hm hE _ _ (by have := mn_le (r.f0 + r.f1) f; omega) c
      · have : mn (mx f r.f0) (r.f0 + r.f1) = r.f0 := by omega
        rw [put_no _ _ _ _ (by omega), addP_none _ _ _ _ (by omega)]
    have w2 : salvorref16_put.f (addP out r.f0 (mn (mx f r.f0) (r.f0 + r.f1) - r.f0) r.f2) (mx r.f0 f) (mn (r.f0 + r.f1) t) st = some (addP (addP out r.f0 (mn (mx f r.f0) (r.f0 + r.f1) - r.f0) r.f2) (mn (mx f r.f0) (r.f0 + r.f1)) (mn (mx t r.f0) (r.f0 + r.f1) - mn (mx f r.f0) (r.f0 + r.f1)) st) := by
      by_cases c : mx r.f0 f < mn (r.f0 + r.f1) t
      · have e1 : mn (mx f r.f0) (r.f0 + r.f1) = mx r.f0 f := by omega
        have e2 : mn (mx t r.f0) (r.f0 + r.f1) = mn (r.f0 + r.f1) t := by omega
        rw [e1, e2]
        rw [e1] at m1 E1
        exact put_eq m1 E1 _ _ (by have := mn_le (r.f0 + r.f1) t; omega) c
      · have e1 : mn (mx t r.f0) (r.f0 + r.f1) = mn (mx f r.f0) (r.f0 + r.f1) := by omega
        have z : mn (mx t r.f0) (r.f0 + r.f1) - mn (mx f r.f0) (r.f0 + r.f1) < 1 := by omega
        rw [put_no _ _ _ _ (by omega), addP_none _ _ _ st z]
    have w3 : salvorref16_put.f (addP (addP out r.f0 (mn (mx f r.f0) (r.f0 + r.f1) - r.f0) r.f2) (mn (mx f r.f0) (r.f0 + r.f1)) (mn (mx t r.f0) (r.f0 + r.f1) - mn (mx f r.f0) (r.f0 + r.f1)) st) (mx r.f0 t) (r.f0 + r.f1) r.f2 = some (addP (addP (addP out r.f0 (mn (mx f r.f0) (r.f0 + r.f1) - r.f0) r.f2) (mn (mx f r.f0) (r.f0 + r.f1)) (mn (mx t r.f0) (r.f0 + r.f1) - mn (mx f r.f0) (r.f0 + r.f1)) st) (mn (mx t r.f0) (r.f0 + r.f1)) (r.f0 + r.f1 - mn (mx t r.f0) (r.f0 + r.f1)) r.f2) := by
      by_cases c : mx r.f0 t < r.f0 + r.f1
      · have e1 : mn (mx t r.f0) (r.f0 + r.f1) = mx r.f0 t := by omega
        rw [e1]
        rw [e1] at m2 E2
        exact put_eq m2 E2 _ _ (by omega) c
      · have e1 : mn (mx t r.f0) (r.f0 + r.f1) = r.f0 + r.f1 := by omega
        have z : r.f0 + r.f1 - mn (mx t r.f0) (r.f0 + r.f1) < 1 := by omega
        rw [put_no _ _ _ _ (by omega), addP_none _ _ _ r.f2 z]
    have i1 := ih (i + 1) _ _ (r.f0 + r.f1) hn m3 E3 (by omega) (by omega) g6
    refine Ev.step (f := fun k => salvorref16_Set.l0 k l st f t (addP (addP (addP out r.f0 (mn (mx f r.f0) (r.f0 + r.f1) - r.f0) r.f2) (mn (mx f r.f0) (r.f0 + r.f1)) (mn (mx t r.f0) (r.f0 + r.f1) - mn (mx f r.f0) (r.f0 + r.f1)) st) (mn (mx t r.f0) (r.f0 + r.f1)) (r.f0 + r.f1 - mn (mx t r.f0) (r.f0 + r.f1)) r.f2) ((i : Int) + 1)) (fun k => ?_) (by rw [show ((i : Int) + 1) = ((i + 1 : Nat) : Int) from by omega]; exact i1)
    simp only [salvorref16_Set.l0]
    rw [if_pos (by omega), if_pos (by omega), hrd, wrap_in (x := r.f0 + r.f1) (by omega) (by omega), w1]
    simp only [Option.bind_some]
    rw [w2]
    simp only [Option.bind_some]
    rw [w3]
    simp only [Option.bind_some]
    rw [wrap_in (x := (i : Int) + 1) (by omega) (by omega)]

theorem refset_may {l : List S33} (hl : mayL 0 none l = true) {pos n st : Int} (hp : 0 ≤ pos) (hn : 0 ≤ n) (hs : isS st = true) :
    Ev (fun k => salvorref16_Set.f k l pos n st) (setM l pos n st) := by
  have hb := mayL_end hl (by omega)
  have h1 := mn_le pos (endOf 0 l)
  have h2 := mn_le n (endOf 0 l - mn pos (endOf 0 l))
  have e1 := refset_ev l hl (mn pos (endOf 0 l)) (mn pos (endOf 0 l) + mn n (endOf 0 l - mn pos (endOf 0 l))) st (by omega) hs l 0 [] none 0 rfl rfl rfl (by omega) (by omega) hl
  unfold salvorref16_Set.f
  refine Ev.bind (mayref l (by omega)) ?_
  rw [hl]
  simp only [if_true]
  rw [show (fun k => if pos < 0 then salvorref16_Set.j0 k l pos n st true else if n < 0 then salvorref16_Set.j0 k l pos n st true else (salvorref16_status.f st).bind fun t205 => salvorref16_Set.j0 k l pos n st (!t205)) = fun k => salvorref16_Set.j0 k l pos n st false from by
    funext k
    rw [if_neg (by omega), if_neg (by omega), status_eq, hs]
    rfl]
  refine Ev.step (f := fun k => (salvorref16_End.f k l).bind fun t209 => salvorref16_Set.l0 k l st (mn pos t209) (wrap64 ((mn pos t209) + (mn n (wrap64 (t209 - (mn pos t209)))))) [] 0) (fun k => ?_) (Ev.bind (endref_ev l (by omega)) ?_)
  · simp only [salvorref16_Set.j0, Bool.false_eq_true, if_false]
  · rw [hl]
    simp only [if_true]
    rw [wrap_in (x := endOf 0 l - mn pos (endOf 0 l)) (by omega) (by omega), wrap_in (x := mn pos (endOf 0 l) + mn n (endOf 0 l - mn pos (endOf 0 l))) (by omega) (by omega)]
    exact e1
theorem refset_no {l : List S33} (hlen : l.length ≤ 1000000) {pos n st : Int} (h : mayL 0 none l = false ∨ pos < 0 ∨ n < 0 ∨ isS st = false) : Ev (fun k => salvorref16_Set.f k l pos n st) l := by
  have hj : Ev (fun k => salvorref16_Set.j0 k l pos n st true) l := by
    refine Ev.step (f := fun _ => some l) (fun k => ?_) (Ev.now _)
    simp only [salvorref16_Set.j0, if_true, List.length_nil, List.nil_append]
    rw [if_pos (by omega)]
  unfold salvorref16_Set.f
  refine Ev.bind (mayref l (by omega)) ?_
  cases hm : mayL 0 none l with
  | false => simpa using hj
  | true =>
    simp only [if_true]
    by_cases c1 : pos < 0
    · simpa [c1] using hj
    · by_cases c2 : n < 0
      · simpa [c1, c2] using hj
      · have : isS st = false := by simp_all
        simp only [c1, c2, if_false, status_eq, this, Option.bind_some, Bool.not_false]
        exact hj

/-! ### counting -/

end Go.Proofs.Ytnoilinjlelpaaa.Reg
end

section
namespace Go.Proofs.Ytnoilinjlelpaaa.Reg
open Go.RowKit Go.Proofs.YtnoilinjlelpaaaW.PrintWords Go.Proofs.YtnoilinjlelpaaaW.PrintLast Go.Proofs.YtnoilinjlelpaaaW.PrintMore Go.Proofs.Ytnoilinjlelpaaa.P

theorem atL_st {e : Int} {p : Option Int} {l : List S33} (h : mayL e p l = true) (he : e ≤ 1099511627776) (x : Int) (h0 : e ≤ x) (h1 : x < endOf e l) : ∃ a b s, atL x l = (a, b, s, true) ∧ stAt e l x = some s ∧ a ≤ x ∧ x < a + b := by
  induction l generalizing e p with
  | nil => simp only [endOf] at h1; omega
  | cons r t ih =>
    obtain ⟨g1, g2, g3, g4, g5, g6⟩ := mayL_cons h
    have h1' : x < endOf (e + r.f1) t := h1
    have hge := mayL_end g6 (by omega)
    simp only [atL, stAt]
    by_cases c : x < e + r.f1
    · rw [if_pos (by omega), if_neg (by omega), if_pos c]
      exact ⟨_, _, _, rfl, rfl, by omega, by omega⟩
    · rw [if_neg (by omega), if_neg (by omega), if_neg c]
      exact ih g6 (by omega) (by omega) h1'
theorem atL_no {e : Int} {p : Option Int} {l : List S33} (h : mayL e p l = true) (he : e ≤ 1099511627776) (x : Int) (h1 : endOf e l ≤ x) : atL x l = (0, 0, 0, false) := by
  induction l generalizing e p with
  | nil => rfl
  | cons r t ih =>
    obtain ⟨g1, g2, g3, g4, g5, g6⟩ := mayL_cons h
    have h1' : endOf (e + r.f1) t ≤ x := h1
    have hge := mayL_end g6 (by omega)
    simp only [atL]
    rw [if_neg (by omega)]
    exact ih g6 (by omega) h1'

theorem firstL_st {e : Int} {p : Option Int} {l : List S33} (h : mayL e p l = true) (he : e ≤ 1099511627776) (st x : Int) :
    (∃ a b, firstL st x l = (a, b, st, true) ∧ x ≤ a ∧ e ≤ a ∧ 0 < b ∧ a + b ≤ 1099511627776 ∧ (∀ y, a ≤ y → y < a + b → stAt e l y = some st) ∧ ∀ y, x ≤ y → stAt e l y = some st → a ≤ y) ∨
    (firstL st x l = (0, 0, 0, false) ∧ ∀ y, x ≤ y → stAt e l y ≠ some st) := by
  induction l generalizing e p with
  | nil => exact .inr ⟨rfl, fun y _ => by simp [stAt]⟩
  | cons r t ih =>
    obtain ⟨g1, g2, g3, g4, g5, g6⟩ := mayL_cons h
    have hge := mayL_end g6 (by omega)
    have hmx := mx_ge r.f0 x
    simp only [firstL]
    by_cases c : r.f2 = st ∧ x < r.f0 + r.f1
    · rw [if_pos c]
      refine .inl ⟨_, _, rfl, by omega, by omega, by omega, by omega, fun y h0 h1 => ?_, fun y h0 h1 => ?_⟩
      · simp only [stAt]
        rw [if_neg (by omega), if_pos (by omega), c.1]
      · simp only [stAt] at h1
        by_cases d : y < e
        · rw [if_pos d] at h1; cases h1
        · omega
    · rw [if_neg c]
      rcases ih g6 (by omega) with ⟨a, b, q1, q2, q3, q4, q5, q6, q7⟩ | ⟨q1, q2⟩
      · refine .inl ⟨a, b, q1, q2, by omega, q4, q5, fun y h0 h1 => ?_, fun y h0 h1 => ?_⟩
        · simp only [stAt]
          rw [if_neg (by omega), if_neg (by omega)]
          exact q6 y h0 h1
        · simp only [stAt] at h1
          by_cases d : y < e
          · rw [if_pos d] at h1; cases h1
          · rw [if_neg d] at h1
            by_cases d2 : y < e + r.f1
            · rw [if_pos d2] at h1
              exact absurd ⟨Option.some.inj h1, by omega⟩ c
            · rw [if_neg d2] at h1
              exact q7 y h0 h1
      · refine .inr ⟨q1, fun y h0 h1 => ?_⟩
        simp only [stAt] at h1
        by_cases d : y < e
        · rw [if_pos d] at h1; cases h1
        · rw [if_neg d] at h1
          by_cases d2 : y < e + r.f1
          · rw [if_pos d2] at h1
            exact absurd ⟨Option.some.inj h1, by omega⟩ c
          · rw [if_neg d2] at h1
            exact q2 y h0 h1

/-- The status of a place, by the region's number. -/
theorem stAt_rd {l : List S33} (h : mayL 0 none l = true) (y : Int) (s : Int) (hy : stAt 0 l y = some s) : ∃ i : Nat, i < l.length ∧ (rd_T33 l i).f0 ≤ y ∧ y < (rd_T33 l i).f0 + (rd_T33 l i).f1 ∧ (rd_T33 l i).f2 = s := by
  have go : ∀ (t : List S33) (e : Int) (p : Option Int) (i : Nat), l.drop i = t → mayL e p t = true → e ≤ 1099511627776 → stAt e t y = some s → ∃ i : Nat, i < l.length ∧ (rd_T33 l i).f0 ≤ y ∧ y < (rd_T33 l i).f0 + (rd_T33 l i).f1 ∧ (rd_T33 l i).f2 = s := by
    intro t
    induction t with
    | nil => intro e p i _ _ _ h; simp [stAt] at h
    | cons r t ih =>
      intro e p i hd hm he hs
      obtain ⟨g1, g2, g3, g4, g5, g6⟩ := mayL_cons hm
      have hr := rd_at l i r t hd
      simp only [stAt] at hs
      by_cases d : y < e
      · rw [if_pos d] at hs; cases hs
      · rw [if_neg d] at hs
        by_cases d2 : y < e + r.f1
        · rw [if_pos d2] at hs
          exact ⟨i, drop_lt hd, by rw [hr]; omega, by rw [hr]; omega, by rw [hr]; exact Option.some.inj hs⟩
        · rw [if_neg d2] at hs
          exact ih (e + r.f1) _ (i + 1) (drop_succ hd) g6 (by omega) hs
  exact go l 0 none 0 rfl h (by omega) hy
theorem rd_stAt {l : List S33} (h : mayL 0 none l = true) (i : Nat) (hi : i < l.length) (y : Int) (h0 : (rd_T33 l i).f0 ≤ y) (h1 : y < (rd_T33 l i).f0 + (rd_T33 l i).f1) : stAt 0 l y = some (rd_T33 l i).f2 := by
  have go : ∀ (t : List S33) (e : Int) (p : Option Int) (j : Nat), l.drop j = t → j ≤ i → mayL e p t = true → e ≤ 1099511627776 → stAt e t y = some (rd_T33 l i).f2 := by
    intro t
    induction t with
    | nil =>
      intro e p j hd hj _ _
      have := drop_nil_ge hd
      omega
    | cons r t ih =>
      intro e p j hd hj hm he
      obtain ⟨g1, g2, g3, g4, g5, g6⟩ := mayL_cons hm
      have hr := rd_at l j r t hd
      simp only [stAt]
      by_cases hji : j = i
      · subst hji
        rw [hr] at h0 h1 ⊢
        rw [if_neg (by omega), if_pos (by omega)]
      · have hmem : rd_T33 l i ∈ t := by
          have h2 : l[i]? = t[i - (j + 1)]? := by
            rw [← drop_succ hd, List.getElem?_drop]
            congr 1
            omega
          have h3 : t[i - (j + 1)]? = some (rd_T33 l i) := by
            rw [← h2]
            unfold rd_T33
            simp [List.getD, hi]
          exact List.mem_of_getElem? h3
        have hm2 := may_mem g6 (by omega) _ hmem
        rw [if_neg (by omega), if_neg (by omega)]
        exact ih (e + r.f1) _ (j + 1) (drop_succ hd) (by omega) g6 (by omega)
  exact go l 0 none 0 rfl (Nat.zero_le _) h (by omega)
theorem rd_order {l : List S33} (h : mayL 0 none l = true) : ∀ (j i : Nat), i < j → j < l.length → (rd_T33 l i).f0 + (rd_T33 l i).f1 ≤ (rd_T33 l j).f0 := by
  have go : ∀ (t : List S33) (e : Int) (p : Option Int) (k : Nat), l.drop k = t → mayL e p t = true → e ≤ 1099511627776 → ∀ (j i : Nat), k ≤ i → i < j → j < l.length → (rd_T33 l i).f0 + (rd_T33 l i).f1 ≤ (rd_T33 l j).f0 := by
    intro t
    induction t with
    | nil =>
      intro e p k hd _ _ j i h1 h2 h3
      have := drop_nil_ge hd
      omega
    | cons r t ih =>
      intro e p k hd hm he j i h1 h2 h3
      obtain ⟨g1, g2, g3, g4, g5, g6⟩ := mayL_cons hm
      have hr := rd_at l k r t hd
      by_cases hki : k = i
      · subst hki
        rw [hr]
        have hmem : rd_T33 l j ∈ t := by
          have h4 : l[j]? = t[j - (k + 1)]? := by
            rw [← drop_succ hd, List.getElem?_drop]
            congr 1
            omega
          have h5 : t[j - (k + 1)]? = some (rd_T33 l j) := by
            rw [← h4]
            unfold rd_T33
            simp [List.getD, h3]
          exact List.mem_of_getElem? h5
        have := may_mem g6 (by omega) _ hmem
        omega
      · exact ih (e + r.f1) _ (k + 1) (drop_succ hd) g6 (by omega) j i (by omega) h2 h3
  exact fun j i h2 h3 => go l 0 none 0 rfl h (by omega) j i (Nat.zero_le _) h2 h3

theorem lastG_st {l : List S33} (h : mayL 0 none l = true) (st x : Int) (hx : x ≤ 9223372036854775807) : ∀ n : Nat, n ≤ l.length →
    (∃ a b, region_Last.g l st x n = (a, b, st, true) ∧ 0 ≤ a ∧ 0 < b ∧ a + b ≤ x ∧ a + b ≤ 1099511627776 ∧ (∀ y, a ≤ y → y < a + b → stAt 0 l y = some st) ∧ ∀ (i : Nat) (y : Int), i < n → (rd_T33 l i).f2 = st → (rd_T33 l i).f0 ≤ y → y < (rd_T33 l i).f0 + (rd_T33 l i).f1 → y < x → y < a + b) ∨
    (region_Last.g l st x n = (0, 0, 0, false) ∧ ∀ (i : Nat) (y : Int), i < n → (rd_T33 l i).f2 = st → (rd_T33 l i).f0 ≤ y → y < (rd_T33 l i).f0 + (rd_T33 l i).f1 → ¬ y < x) := by
  intro n
  induction n with
  | zero => intro _; exact .inr ⟨rfl, fun i y h1 => by omega⟩
  | succ n ih =>
    intro hn
    have hm := may_mem h (by omega) (rd_T33 l n) (rd_mem (by omega))
    rw [region_Last.g]
    by_cases c : (rd_T33 l n).f2 = st ∧ (rd_T33 l n).f0 < x
    · rw [if_pos c, wrap_in (x := x - (rd_T33 l n).f0) (by omega) (by omega)]
      have hmn := mn_le (rd_T33 l n).f1 (x - (rd_T33 l n).f0)
      refine .inl ⟨_, _, rfl, by omega, by omega, by omega, by omega, fun y h0 h1 => ?_, fun i y h1 h2 h3 h4 h5 => ?_⟩
      · have := rd_stAt h n (by omega) y h0 (by omega)
        rwa [c.1] at this
      · by_cases hin : i = n
        · subst hin; omega
        · have := rd_order h n i (by omega) (by omega)
          omega
    · rw [if_neg c]
      rcases ih (by omega) with ⟨a, b, q1, q2, q3, q4, q5, q6, q7⟩ | ⟨q1, q2⟩
      · refine .inl ⟨a, b, q1, q2, q3, q4, q5, q6, fun i y h1 h2 h3 h4 h5 => ?_⟩
        by_cases hin : i = n
        · subst hin; exact absurd ⟨h2, by omega⟩ c
        · exact q7 i y (by omega) h2 h3 h4 h5
      · refine .inr ⟨q1, fun i y h1 h2 h3 h4 h5 => ?_⟩
        by_cases hin : i = n
        · subst hin; exact absurd ⟨h2, by omega⟩ c
        · exact q2 i y (by omega) h2 h3 h4 h5
theorem last_st {l : List S33} (h : mayL 0 none l = true) (st x : Int) (hx : x ≤ 9223372036854775807) :
    (∃ a b, region_Last.g l st x l.length = (a, b, st, true) ∧ 0 ≤ a ∧ 0 < b ∧ a + b ≤ x ∧ a + b ≤ 1099511627776 ∧ (∀ y, a ≤ y → y < a + b → stAt 0 l y = some st) ∧ ∀ y, y < x → stAt 0 l y = some st → y < a + b) ∨
    (region_Last.g l st x l.length = (0, 0, 0, false) ∧ ∀ y, y < x → stAt 0 l y ≠ some st) := by
  rcases lastG_st h st x hx l.length (Nat.le_refl _) with ⟨a, b, q1, q2, q3, q4, q5, q6, q7⟩ | ⟨q1, q2⟩
  · refine .inl ⟨a, b, q1, q2, q3, q4, q5, q6, fun y h0 h1 => ?_⟩
    obtain ⟨i, i1, i2, i3, i4⟩ := stAt_rd h y st h1
    exact q7 i y i1 i4 i2 i3 h0
  · refine .inr ⟨q1, fun y h0 h1 => ?_⟩
    obtain ⟨i, i1, i2, i3, i4⟩ := stAt_rd h y st h1
    exact q2 i y i1 i4 i2 i3 h0
end Go.Proofs.Ytnoilinjlelpaaa.Reg
end
