/- Regions in plain Lean: which may be, what Set makes of them place by place, lists that are told by their places, the end. No conditions beyond those that the lemmas name. Plain laws of numbers, of seat 2's (wip/portnum17.py). No program in sight. No conditions. Plain laws of numbers, of seat 2's: what the program's functions answer. No program in sight. No conditions. Plain laws of numbers that are read again, of seat 2's. No program in sight. No conditions. Plain laws of maps: which may be, and their texts. No program in sight. No conditions beyond those that the lemmas name. Plain laws of a line's words: strings.FieldsFunc at blanks and tabs goes by bytes. No program in sight. No conditions. Plain laws of a line's words: the reference's are strings.FieldsFunc's at blanks and tabs. No program in sight. No conditions beyond those that the lemmas name. Plain laws of a line's words: none is empty. No program in sight. No conditions beyond those that the lemmas name. Plain laws of a map's lines: what the program's lines are. No program in sight. No conditions beyond those that the lemmas name. Plain laws of a line's words: strings.FieldsFunc at blanks, as a fold over the bytes. No program in sight. No conditions beyond those that the lemmas name. Plain laws of a map's words: numbers in one of several forms. No program in sight. No conditions beyond those that the lemmas name. Plain laws of a map's lines: the lines of three words of a text, as a list of bytes. No program in sight. No conditions beyond those that the lemmas name. Plain laws of a map's text: what the lines of three words are as a map. No program in sight. No conditions beyond those that the lemmas name. Plain laws of a map's text: what is printed is read again. No program in sight. No conditions beyond those that the lemmas name. Plain laws of a map's text: what the program's Parse answers. No program in sight. No conditions beyond those that the lemmas name. -/
import Derived.Test.YtlcablcpcbmgeaaGreatDoorPx0
import Derived.Test.YtlcablcpcbmgeaaGreatDoorPx2
import Derived.Test.YtlcablcpcbmgeaaGreatDoorPx3
import Derived.Test.YtlcablcpcbmgeaaGreatDoorPx4
import Derived.Test.YtlcablcpcbmgeaaGreatDoorPx19
import Derived.Test.YtlcablcpcbmgeaaGreatDoorPx22
import Derived.Test.YtlcablcpcbmgeaaGreatDoorNumL
import Derived.Test.YtlcablcpcbmgeaaGreatDoorPx6
import Derived.Test.YtlcablcpcbmgeaaGreatDoorPx7
import Derived.Test.YtlcablcpcbmgeaaGreatDoorPx8
import Derived.Test.YtlcablcpcbmgeaaGreatDoorPx9
import Derived.Test.YtlcablcpcbmgeaaGreatDoorPx17
import Derived.Test.YtlcablcpcbmgeaaGreatDoorPx18
import Derived.Test.YtlcablcpcbmgeaaGreatDoorNumD
import Derived.Lib.SplitLaws
import Derived.Lib.SmallJoins
import Derived.Test.YtlcablcpcbmgeaaGreatDoorPx5
import Derived.Test.YtlcablcpcbmgeaaGreatDoorMapB
import Derived.Test.YtlcablcpcbmgeaaGreatDoorPx14
import Derived.Lib.FieldsP
import Derived.Lib.MapLaws
import Derived.Test.YtlcablcpcbmgeaaGreatDoorPx12
import Derived.Test.YtlcablcpcbmgeaaGreatDoorPx15
import Derived.Test.YtlcablcpcbmgeaaGreatDoorPx20
import Derived.Test.YtlcablcpcbmgeaaGreatDoorPx21
import Derived.Test.YtlcablcpcbmgeaaGreatDoorMapC
section
namespace Go.Proofs.YtlcablcpcbmgeaaGreatDoor.Reg
open Go.RowKit Go.Proofs.YtlcablcpcbmgeaaGreatDoorW.PrintWords Go.Proofs.YtlcablcpcbmgeaaGreatDoorW.PrintLast Go.Proofs.YtlcablcpcbmgeaaGreatDoorW.PrintMore Go.Proofs.YtlcablcpcbmgeaaGreatDoor.P
theorem wrap_in {x : Int} (h0 : -9223372036854775808 ≤ x) (h1 : x < 9223372036854775808) : wrap64 x = x := by unfold wrap64; omega

theorem i64_range {x : Int} (h : (Lit.int .i64 x).wf = true) : -9223372036854775808 ≤ x ∧ x ≤ 9223372036854775807 := by
  simp only [Lit.wf, Bool.and_eq_true, decide_eq_true_eq] at h
  exact h
theorem u8_range {x : Int} (h : (Lit.int .u8 x).wf = true) : 0 ≤ x ∧ x ≤ 255 := by
  simp only [Lit.wf, Bool.and_eq_true, decide_eq_true_eq] at h
  exact h

theorem rd_at (l : List S23) (i : Nat) (r : S23) (t : List S23) (h : l.drop i = r :: t) : rd_T23 l (i : Int) = r := by
  unfold rd_T23
  have h1 : l[i]? = some r := by
    have := List.getElem?_drop (xs := l) (i := i) (j := 0)
    rw [h] at this
    simpa using this.symm
  simp [List.getD, h1]
theorem drop_lt {α : Type} {l t : List α} {i : Nat} {r : α} (h : l.drop i = r :: t) : i < l.length := by
  have := congrArg List.length h
  simp at this
  omega
theorem drop_succ {α : Type} {l t : List α} {i : Nat} {r : α} (h : l.drop i = r :: t) : l.drop (i + 1) = t := by
  rw [← List.drop_drop, h]; rfl
theorem drop_nil_ge {α : Type} {l : List α} {i : Nat} (h : l.drop i = []) : l.length ≤ i := by
  simpa using h

/-- Is it a status? -/
def isS (c : Int) : Bool := c == 63 || c == 42 || c == 47 || c == 45 || c == 43
theorem is_eq (c : Int) : region_Is.f c = some (isS c) := by
  unfold region_Is.f isS
  by_cases h1 : c = 63 <;> by_cases h2 : c = 42 <;> by_cases h3 : c = 47 <;> by_cases h4 : c = 45 <;> by_cases h5 : c = 43 <;> simp_all
/-- The rest of regions, from a place on, behind one of a status. -/
def mayL (e : Int) (p : Option Int) : List S23 → Bool
  | [] => true
  | r :: t => decide (r.f0 = e) && decide (1 ≤ r.f1) && decide (r.f1 ≤ 1099511627776 - e) && isS r.f2 && decide (p ≠ some r.f2) && mayL (e + r.f1) (some r.f2) t

/-- The status ahead of an index. -/
def prev (l : List S23) (i : Nat) : Option Int := if i = 0 then none else some (rd_T23 l ((i : Int) - 1)).f2

theorem may_ev (l : List S23) (hl : l.length ≤ 4611686018427387904) : ∀ (t : List S23) (i : Nat) (e : Int), l.drop i = t → 0 ≤ e → e ≤ 1099511627776 →
    Ev (fun k => region_May.l0 k l e l (l.length : Int) (i : Int)) (mayL e (prev l i) t) := by
  intro t
  induction t with
  | nil =>
    intro i e h h0 h1
    have hge := drop_nil_ge h
    refine Ev.step (f := fun _ => some true) (fun k => ?_) (Ev.now _)
    simp only [region_May.l0]
    rw [if_neg (by omega)]
  | cons r t ih =>
    intro i e h h0 h1
    have hlt := drop_lt h
    have hr := rd_at l i r t h
    have hn := drop_succ h
    have hp : rd_T23 l ((i : Int) - 1) = rd_T23 l ((i : Int) - 1) := rfl
    have key : ∀ k, region_May.l0 (k + 1) l e l (l.length : Int) (i : Int) =
        if (decide (r.f0 = e) && decide (1 ≤ r.f1) && decide (r.f1 ≤ 1099511627776 - e) && isS r.f2 && decide (prev l i ≠ some r.f2)) = true then region_May.l0 k l (e + r.f1) l (l.length : Int) ((i : Int) + 1) else some false := by
      intro k
      simp only [region_May.l0]
      rw [if_pos (by omega), if_pos (by omega), if_pos (by omega), hr]
      by_cases c1 : r.f0 = e
      · rw [if_pos c1]
        by_cases c2 : r.f1 < 1
        · rw [if_pos c2]; simp [c1, show ¬ 1 ≤ r.f1 from by omega]
        · rw [if_neg c2, wrap_in (x := 1099511627776 - e) (by omega) (by omega)]
          by_cases c3 : r.f1 > 1099511627776 - e
          · rw [if_pos c3]; simp [c1, show ¬ r.f1 ≤ 1099511627776 - e from by omega]
          · rw [if_neg c3, is_eq, wrap_in (x := e + r.f1) (by omega) (by omega), wrap_in (x := (i : Int) + 1) (by omega) (by omega), wrap_in (x := (i : Int) - 1) (by omega) (by omega)]
            simp only [Option.bind_some]
            cases hs : isS r.f2 with
            | false => simp [c1]
            | true =>
              simp only [if_true]
              by_cases c4 : (i : Int) > 0
              · rw [if_pos c4, if_pos (by omega), if_pos (by omega)]
                have hi : i ≠ 0 := by omega
                simp only [prev, hi, if_false]
                by_cases c5 : (rd_T23 l ((i : Int) - 1)).f2 = r.f2
                · rw [if_pos c5]; simp [c5]
                · rw [if_neg c5]
                  simp [c1, c5, show 1 ≤ r.f1 from by omega, show r.f1 ≤ 1099511627776 - e from by omega]
              · rw [if_neg c4]
                have hi : i = 0 := by omega
                simp [prev, hi, c1, show 1 ≤ r.f1 from by omega, show r.f1 ≤ 1099511627776 - e from by omega]
      · rw [if_neg c1]; simp [c1]
    by_cases hc : (decide (r.f0 = e) && decide (1 ≤ r.f1) && decide (r.f1 ≤ 1099511627776 - e) && isS r.f2 && decide (prev l i ≠ some r.f2)) = true
    · have hb : 1 ≤ r.f1 ∧ r.f1 ≤ 1099511627776 - e := by simp only [Bool.and_eq_true, decide_eq_true_eq] at hc; omega
      have ih' := ih (i + 1) (e + r.f1) hn (by omega) (by omega)
      have hpv : prev l (i + 1) = some r.f2 := by simp [prev, hr]
      rw [hpv] at ih'
      rw [mayL, hc, Bool.true_and]
      refine Ev.step (f := fun k => region_May.l0 k l (e + r.f1) l (l.length : Int) ((i : Int) + 1)) (fun k => by rw [key k, if_pos hc]) ?_
      have e1 : (((i + 1 : Nat) : Int)) = (i : Int) + 1 := by omega
      rw [e1] at ih'
      exact ih'
    · rw [mayL, Bool.eq_false_iff.mpr hc, Bool.false_and]
      exact Ev.step (f := fun _ => some false) (fun k => by rw [key k, if_neg hc]) (Ev.now _)

theorem may (l : List S23) (hl : l.length ≤ 4611686018427387904) : Ev (fun k => region_May.f k l) (mayL 0 none l) := by
  have := may_ev l hl l 0 0 rfl (by omega) (by omega)
  simpa [prev, region_May.f] using this


/-- Where regions from a place on end. -/
def endOf (e : Int) : List S23 → Int
  | [] => e
  | r :: t => endOf (e + r.f1) t
/-- The last status. -/
def lastSt (p : Option Int) : List S23 → Option Int
  | [] => p
  | r :: t => lastSt (some r.f2) t
/-- The status of a place. -/
def stAt (e : Int) : List S23 → Int → Option Int
  | [], _ => none
  | r :: t, x => if x < e then none else if x < e + r.f1 then some r.f2 else stAt (e + r.f1) t x

theorem endOf_append (e : Int) (a b : List S23) : endOf e (a ++ b) = endOf (endOf e a) b := by
  induction a generalizing e with
  | nil => rfl
  | cons r t ih => simp [endOf, ih]
theorem lastSt_append (p : Option Int) (a b : List S23) : lastSt p (a ++ b) = lastSt (lastSt p a) b := by
  induction a generalizing p with
  | nil => rfl
  | cons r t ih => simp [lastSt, ih]
theorem mayL_append (e : Int) (p : Option Int) (a b : List S23) : mayL e p (a ++ b) = (mayL e p a && mayL (endOf e a) (lastSt p a) b) := by
  induction a generalizing e p with
  | nil => simp [mayL, endOf, lastSt]
  | cons r t ih => simp [mayL, endOf, lastSt, ih, Bool.and_assoc]
theorem mayL_cons {e : Int} {p : Option Int} {r : S23} {t : List S23} (h : mayL e p (r :: t) = true) : r.f0 = e ∧ 1 ≤ r.f1 ∧ r.f1 ≤ 1099511627776 - e ∧ isS r.f2 = true ∧ p ≠ some r.f2 ∧ mayL (e + r.f1) (some r.f2) t = true := by
  simp only [mayL, Bool.and_eq_true, decide_eq_true_eq] at h
  obtain ⟨⟨⟨⟨⟨h1, h2⟩, h3⟩, h4⟩, h5⟩, h6⟩ := h
  exact ⟨h1, h2, h3, h4, h5, h6⟩
theorem mayL_mk {e : Int} {p : Option Int} {r : S23} {t : List S23} (h1 : r.f0 = e) (h2 : 1 ≤ r.f1) (h3 : r.f1 ≤ 1099511627776 - e) (h4 : isS r.f2 = true) (h5 : p ≠ some r.f2) (h6 : mayL (e + r.f1) (some r.f2) t = true) : mayL e p (r :: t) = true := by
  simp only [mayL, Bool.and_eq_true, decide_eq_true_eq]
  exact ⟨⟨⟨⟨⟨h1, h2⟩, h3⟩, h4⟩, h5⟩, h6⟩
theorem mayL_end {e : Int} {p : Option Int} {l : List S23} (h : mayL e p l = true) (he : e ≤ 1099511627776) : e + (l.length : Int) ≤ endOf e l ∧ endOf e l ≤ 1099511627776 := by
  induction l generalizing e p with
  | nil => simp [endOf, he]
  | cons r t ih =>
    obtain ⟨h1, h2, h3, h4, h5, h6⟩ := mayL_cons h
    have := ih h6 (by omega)
    simp only [endOf, List.length_cons]
    omega
theorem stAt_out {e : Int} {p : Option Int} {l : List S23} (h : mayL e p l = true) (x : Int) : x < e ∨ endOf e l ≤ x → stAt e l x = none := by
  induction l generalizing e p with
  | nil => intro _; rfl
  | cons r t ih =>
    intro hx
    obtain ⟨h1, h2, h3, h4, h5, h6⟩ := mayL_cons h
    have he := (mayL_end h6 (by omega)).1
    simp only [stAt, endOf] at hx ⊢
    by_cases c1 : x < e
    · rw [if_pos c1]
    · rw [if_neg c1, if_neg (by omega)]
      exact ih h6 (.inr (by omega))
theorem stAt_in {e : Int} {p : Option Int} {l : List S23} (h : mayL e p l = true) (x : Int) (h0 : e ≤ x) (h1 : x < endOf e l) : ∃ s, stAt e l x = some s ∧ isS s = true := by
  induction l generalizing e p with
  | nil => simp [endOf] at h1; omega
  | cons r t ih =>
    obtain ⟨g1, g2, g3, g4, g5, g6⟩ := mayL_cons h
    simp only [stAt, endOf] at h1 ⊢
    rw [if_neg (by omega)]
    by_cases c : x < e + r.f1
    · rw [if_pos c]; exact ⟨_, rfl, g4⟩
    · rw [if_neg c]; exact ih g6 (by omega) h1
theorem stAt_append' {E : Int} {e : Int} {p : Option Int} {a b : List S23} (h : mayL e p (a ++ b) = true) (he : e ≤ 1099511627776) (x : Int) (hE : endOf e a = E) : stAt e (a ++ b) x = if x < E then stAt e a x else stAt E b x := by
  induction a generalizing e p with
  | nil =>
    obtain rfl : e = E := hE
    show stAt e b x = if x < e then none else stAt e b x
    have h' : mayL e p b = true := h
    by_cases c : x < e
    · rw [if_pos c]; exact stAt_out h' x (.inl c)
    · rw [if_neg c]
  | cons r t ih =>
    obtain ⟨g1, g2, g3, g4, g5, g6⟩ := mayL_cons (show mayL e p (r :: (t ++ b)) = true from h)
    have hm : mayL (e + r.f1) (some r.f2) t = true := by rw [mayL_append, Bool.and_eq_true] at g6; exact g6.1
    have hge := (mayL_end hm (by omega)).1
    have hE' : endOf (e + r.f1) t = E := hE
    rw [hE'] at hge
    have ih' := ih g6 (by omega) hE'
    show (if x < e then none else if x < e + r.f1 then some r.f2 else stAt (e + r.f1) (t ++ b) x) = if x < E then (if x < e then none else if x < e + r.f1 then some r.f2 else stAt (e + r.f1) t x) else stAt E b x
    by_cases c1 : x < e
    · rw [if_pos c1, if_pos c1, if_pos (by omega)]
    · rw [if_neg c1, if_neg c1]
      by_cases c2 : x < e + r.f1
      · rw [if_pos c2, if_pos c2, if_pos (by omega)]
      · rw [if_neg c2, if_neg c2]; exact ih'
theorem stAt_append {e : Int} {p : Option Int} {a b : List S23} (h : mayL e p (a ++ b) = true) (he : e ≤ 1099511627776) (x : Int) : stAt e (a ++ b) x = if x < endOf e a then stAt e a x else stAt (endOf e a) b x := stAt_append' h he x rfl

/-- Lists that may be are told by their ends and their places. -/
theorem canon : ∀ (a b : List S23) (e : Int) (p : Option Int), e ≤ 1099511627776 → mayL e p a = true → mayL e p b = true → endOf e a = endOf e b → (∀ x, stAt e a x = stAt e b x) → a = b := by
  intro a
  induction a with
  | nil =>
    intro b e p hle ha hb he hs
    cases b with
    | nil => rfl
    | cons r t =>
      obtain ⟨g1, g2, g3, g4, g5, g6⟩ := mayL_cons hb
      have := (mayL_end g6 (by omega)).1
      simp only [endOf] at he
      omega
  | cons r t ih =>
    intro b e p hle ha hb he hs
    obtain ⟨g1, g2, g3, g4, g5, g6⟩ := mayL_cons ha
    have hge := (mayL_end g6 (by omega)).1
    cases b with
    | nil => simp only [endOf] at he; omega
    | cons r' t' =>
      obtain ⟨k1, k2, k3, k4, k5, k6⟩ := mayL_cons hb
      have hge' := (mayL_end k6 (by omega)).1
      -- the statuses
      have h0 := hs e
      simp only [stAt] at h0
      rw [if_neg (by omega), if_pos (by omega), if_neg (by omega), if_pos (by omega)] at h0
      have hst : r.f2 = r'.f2 := Option.some.inj h0
      -- the sizes
      have hsz : r.f1 = r'.f1 := by
        rcases Int.lt_trichotomy r.f1 r'.f1 with hlt | heq | hgt
        · exfalso
          have hx := hs (e + r.f1)
          simp only [stAt] at hx
          rw [if_neg (by omega), if_neg (by omega), if_neg (by omega), if_pos (by omega)] at hx
          cases t with
          | nil => simp [stAt] at hx
          | cons q u =>
            obtain ⟨q1, q2, q3, q4, q5, q6⟩ := mayL_cons g6
            simp only [stAt] at hx
            rw [if_neg (by omega), if_pos (by omega)] at hx
            exact q5 (by rw [hst]; exact hx.symm)
        · exact heq
        · exfalso
          have hx := hs (e + r'.f1)
          simp only [stAt] at hx
          rw [if_neg (by omega), if_pos (by omega), if_neg (by omega), if_neg (by omega)] at hx
          cases t' with
          | nil => simp [stAt] at hx
          | cons q u =>
            obtain ⟨q1, q2, q3, q4, q5, q6⟩ := mayL_cons k6
            simp only [stAt] at hx
            rw [if_neg (by omega), if_pos (by omega)] at hx
            exact q5 (by rw [← hst]; exact hx)
      have hr : r = r' := by
        cases r; cases r'; simp only at *; subst hst hsz; rw [g1, k1]
      subst hr
      simp only [endOf] at he
      congr 1
      refine ih t' (e + r.f1) (some r.f2) (by omega) g6 k6 he (fun x => ?_)
      have hx := hs x
      simp only [stAt] at hx
      by_cases c : x < e + r.f1
      · rw [stAt_out g6 x (.inl c), stAt_out k6 x (.inl c)]
      · rwa [if_neg (by omega), if_neg c, if_neg (by omega), if_neg c] at hx

/-! ### pushing -/
theorem rd_last (a : List S23) (r : S23) : rd_T23 (a ++ [r]) (a.length : Int) = r := by
  unfold rd_T23; simp
/-- A region laid behind others, from a place on. -/
def addP (l : List S23) (pos n st : Int) : List S23 :=
  if n < 1 then l else
    match l.getLast? with
    | some r => if r.f2 = st then l.set (l.length - 1) ⟨r.f0, r.f1 + n, r.f2⟩ else l ++ [⟨pos, n, st⟩]
    | none => [⟨pos, n, st⟩]
theorem addP_nil (pos n st : Int) : addP [] pos n st = if n < 1 then [] else [⟨pos, n, st⟩] := rfl
theorem addP_snoc (a : List S23) (r : S23) (pos n st : Int) : addP (a ++ [r]) pos n st = if n < 1 then a ++ [r] else if r.f2 = st then a ++ [⟨r.f0, r.f1 + n, r.f2⟩] else a ++ [r] ++ [⟨pos, n, st⟩] := by
  unfold addP
  simp only [List.getLast?_append, List.getLast?_singleton, Option.some_or]
  by_cases c : n < 1
  · rw [if_pos c, if_pos c]
  · rw [if_neg c, if_neg c]
    by_cases c2 : r.f2 = st
    · rw [if_pos c2, if_pos c2]; simp
    · rw [if_neg c2, if_neg c2]
theorem snoc_cases (l : List S23) : l = [] ∨ ∃ a r, l = a ++ [r] := by
  rcases List.eq_nil_or_concat l with h | ⟨a, r, h⟩
  · exact .inl h
  · exact .inr ⟨a, r, by simpa using h⟩

theorem end_snoc (a : List S23) (r : S23) (hl : a.length ≤ 4611686018427387904) : region_end.f (a ++ [r]) = some (wrap64 (r.f0 + r.f1)) := by
  unfold region_end.f
  have e1 : ((a ++ [r]).length : Int) = (a.length : Int) + 1 := by simp
  rw [e1, if_neg (by omega), wrap_in (by omega) (by omega), show (a.length : Int) + 1 - 1 = a.length from by omega, if_pos (by omega), if_pos (by omega), rd_last]
theorem end_nil : region_end.f [] = some 0 := rfl
/-- Regions that may be end where their sizes say. -/
theorem may_snoc {a : List S23} {r : S23} {e : Int} {p : Option Int} (h : mayL e p (a ++ [r]) = true) (h0 : 0 ≤ e) (he : e ≤ 1099511627776) : mayL e p a = true ∧ r.f0 = endOf e a ∧ 1 ≤ r.f1 ∧ r.f0 + r.f1 = endOf e (a ++ [r]) ∧ 0 ≤ r.f0 ∧ r.f0 + r.f1 ≤ 1099511627776 ∧ lastSt p a ≠ some r.f2 ∧ isS r.f2 = true := by
  have h' := h
  rw [mayL_append, Bool.and_eq_true] at h
  obtain ⟨g1, g2, g3, g4, g5, g6⟩ := mayL_cons h.2
  have hb := mayL_end h.1 he
  refine ⟨h.1, g1, g2, by rw [endOf_append]; simp [endOf, g1], by omega, by omega, g5, g4⟩
theorem end_may {l : List S23} (h : mayL 0 none l = true) : region_end.f l = some (endOf 0 l) := by
  have hb := mayL_end h (by omega)
  rcases snoc_cases l with rfl | ⟨a, r, rfl⟩
  · rfl
  · obtain ⟨g1, g2, g3, g4, g5, g6, _, _⟩ := may_snoc h (by omega) (by omega)
    simp only [List.length_append, List.length_cons, List.length_nil] at hb
    rw [end_snoc a r (by omega), wrap_in (by omega) (by omega), g4]

theorem push_eq {l : List S23} (h : mayL 0 none l = true) (n st : Int) (hn : n ≤ 1099511627776 - endOf 0 l) : region_Push.f l n st = some (addP l (endOf 0 l) n st) := by
  have hb := mayL_end h (by omega)
  unfold region_Push.f
  by_cases c : n < 1
  · rw [if_pos c]
    unfold addP; rw [if_pos c]
  · rw [if_neg c]
    rcases snoc_cases l with rfl | ⟨a, r, rfl⟩
    · rw [addP_nil, if_neg c]
      simp [wrap64, end_nil, endOf]
    · obtain ⟨g1, g2, g3, g4, g5, g6, _, _⟩ := may_snoc h (by omega) (by omega)
      have hlen : (a.length : Int) + 1 ≤ 1099511627776 := by
        simp only [List.length_append, List.length_cons, List.length_nil] at hb; omega
      have e1 : ((a ++ [r]).length : Int) = (a.length : Int) + 1 := by simp
      rw [addP_snoc, if_neg c, e1, wrap_in (by omega) (by omega), show (a.length : Int) + 1 - 1 = a.length from by omega, if_pos (by omega), if_pos (by omega), if_pos (by omega), rd_last]
      by_cases c2 : r.f2 = st
      · rw [if_pos c2, if_pos c2, wrap_in (x := r.f1 + n) (by omega) (by omega)]
        simp
      · rw [if_neg c2, if_neg c2, end_may h]
        simp only [Option.bind_some]
        rw [if_pos (by simp only [List.length_append, List.length_cons, List.length_nil]; omega)]

theorem addP_may {l : List S23} {n st E : Int} (h : mayL 0 none l = true) (hE : endOf 0 l = E) (hs : 1 ≤ n → isS st = true) (hn : n ≤ 1099511627776 - E) :
    mayL 0 none (addP l E n st) = true ∧ endOf 0 (addP l E n st) = E + (if n < 1 then 0 else n) ∧
    ∀ x, stAt 0 (addP l E n st) x = if E ≤ x ∧ x < E + n then some st else stAt 0 l x := by
  have hb := mayL_end h (by omega)
  rw [hE] at hb
  by_cases c : n < 1
  · have e : addP l E n st = l := by unfold addP; rw [if_pos c]
    rw [e]
    refine ⟨h, by rw [if_pos c, hE]; omega, fun x => ?_⟩
    rw [if_neg (by omega)]
  · have hs' := hs (by omega)
    rw [if_neg c]
    rcases snoc_cases l with rfl | ⟨a, r, rfl⟩
    · obtain rfl : 0 = E := hE
      rw [addP_nil, if_neg c]
      refine ⟨mayL_mk rfl (by simp only; omega) (by simp only; omega) hs' (by simp) rfl, by simp [endOf], fun x => ?_⟩
      show (if x < 0 then none else if x < 0 + n then some st else none) = if 0 ≤ x ∧ x < 0 + n then some st else none
      by_cases c1 : x < 0
      · rw [if_pos c1, if_neg (by omega)]
      · rw [if_neg c1]
        by_cases c2 : x < 0 + n
        · rw [if_pos c2, if_pos (by omega)]
        · rw [if_neg c2, if_neg (by omega)]
    · obtain ⟨g0, g1, g2, g4, g5, g6, g7, g8⟩ := may_snoc h (by omega) (by omega)
      rw [addP_snoc, if_neg c]
      have hab := mayL_end g0 (by omega)
      rw [hE] at g4
      obtain ⟨A, hA⟩ : ∃ A, endOf 0 a = A := ⟨_, rfl⟩
      rw [hA] at g1 hab
      have hEA : A + r.f1 = E := by omega
      by_cases c2 : r.f2 = st
      · rw [if_pos c2]
        have hm : mayL 0 none (a ++ [⟨r.f0, r.f1 + n, r.f2⟩]) = true := by
          rw [mayL_append, g0, Bool.true_and]
          exact mayL_mk (g1.trans hA.symm) (by simp only; omega) (by simp only; rw [hA]; omega) g8 g7 rfl
        refine ⟨hm, by rw [endOf_append, hA]; simp [endOf]; omega, fun x => ?_⟩
        rw [stAt_append' hm (by omega) x hA, stAt_append' h (by omega) x hA]
        simp only [stAt]
        by_cases c3 : x < A
        · rw [if_pos c3, if_pos c3, if_neg (by omega)]
        · rw [if_neg c3, if_neg c3, if_neg c3, if_neg c3]
          by_cases c4 : x < A + r.f1
          · rw [if_pos (by omega), if_neg (by omega), if_pos c4]
          · by_cases c5 : x < A + r.f1 + n
            · rw [if_pos (by omega), if_pos (by omega), c2]
            · rw [if_neg (by omega), if_neg (by omega), if_neg c4]
      · rw [if_neg c2]
        have hm : mayL 0 none (a ++ [r] ++ [⟨E, n, st⟩]) = true := by
          rw [mayL_append, h, Bool.true_and]
          refine mayL_mk hE.symm (by simp only; omega) (by simp only; rw [hE]; omega) hs' ?_ rfl
          rw [lastSt_append]
          simp only [lastSt]
          intro hh
          exact c2 (Option.some.inj hh)
        refine ⟨hm, by rw [endOf_append (b := [⟨E, n, st⟩]), hE]; simp [endOf], fun x => ?_⟩
        rw [stAt_append' hm (by omega) x hE]
        simp only [stAt]
        by_cases c3 : x < E
        · rw [if_pos c3, if_neg (by omega)]
        · rw [if_neg c3, if_neg c3]
          by_cases c4 : x < E + n
          · rw [if_pos c4, if_pos (by omega)]
          · rw [if_neg c4, if_neg (by omega), stAt_out h x (.inr (by omega))]

theorem addP_len (l : List S23) (p n st : Int) : (addP l p n st).length ≤ l.length + 1 := by
  unfold addP
  split
  · omega
  · split
    · split <;> simp
    · simp

theorem same_ev (l : List S23) (hl : l.length ≤ 4611686018427387904) : ∀ (t : List S23) (i : Nat), l.drop i = t → Ev (fun k => salvorref16_SameRegions.l0 k l l (i : Int)) true := by
  intro t
  induction t with
  | nil =>
    intro i h
    have hge := drop_nil_ge h
    refine Ev.step (f := fun _ => some true) (fun k => ?_) (Ev.now _)
    simp only [salvorref16_SameRegions.l0]
    rw [if_neg (by omega)]
  | cons r t ih =>
    intro i h
    have hlt := drop_lt h
    refine Ev.step (f := fun k => salvorref16_SameRegions.l0 k l l ((i + 1 : Nat) : Int)) (fun k => ?_) (ih (i + 1) (drop_succ h))
    simp only [salvorref16_SameRegions.l0]
    rw [if_pos (by omega), if_pos (by omega), if_pos (by omega), wrap_in (x := (i : Int) + 1) (by omega) (by omega)]
    simp
theorem same_self (l : List S23) (hl : l.length ≤ 4611686018427387904) : Ev (fun k => salvorref16_SameRegions.f k l l) true := by
  unfold salvorref16_SameRegions.f
  simp only [if_true]
  exact same_ev l hl l 0 rfl

theorem end_ev (l : List S23) (hl : l.length ≤ 4611686018427387904) : Ev (fun k => region_End.f k l) (if mayL 0 none l = true then endOf 0 l else 0) := by
  unfold region_End.f
  refine Ev.bind (may l hl) ?_
  cases hm : mayL 0 none l with
  | false => exact Ev.now _
  | true => simp only [if_true, end_may hm, Option.bind_some]; exact Ev.now _

end Go.Proofs.YtlcablcpcbmgeaaGreatDoor.Reg
end

section
namespace Go.Proofs.YtlcablcpcbmgeaaGreatDoor.Num
open Go.Lib
set_option linter.unusedVariables false
set_option linter.unusedSimpArgs false
def MX : Nat := 4611686018427387904
def mulG (p : Nat) : List Nat → Option Nat
  | [] => some p
  | x :: r => if MX / p < x then none else mulG (p * x) r
def mulL (l : List Nat) : Option Nat := if 0 ∈ l then some 0 else mulG 1 l
def prod (l : List Nat) : Nat := l.foldr (· * ·) 1
theorem prod_pos : ∀ (l : List Nat), (∀ x ∈ l, 1 ≤ x) → 1 ≤ prod l
  | [], _ => Nat.le_refl _
  | x :: r, h => by
    have h1 := h x List.mem_cons_self
    have h2 := prod_pos r (fun y hy => h y (List.mem_cons_of_mem _ hy))
    show 1 ≤ x * prod r
    exact Nat.mul_pos h1 h2
theorem mulG_eq : ∀ (l : List Nat) (p : Nat), 1 ≤ p → p ≤ MX → (∀ x ∈ l, 1 ≤ x) → mulG p l = if p * prod l ≤ MX then some (p * prod l) else none
  | [], p, h1, h2, _ => by simp [mulG, prod, h2]
  | x :: r, p, h1, h2, h => by
    have hx := h x List.mem_cons_self
    have hr := prod_pos r (fun y hy => h y (List.mem_cons_of_mem _ hy))
    have e : p * prod (x :: r) = p * x * prod r := by show p * (x * prod r) = _; rw [Nat.mul_assoc]
    rw [mulG, e]
    by_cases c : MX / p < x
    · have c2 : MX < p * x := by
        rw [Nat.div_lt_iff_lt_mul h1] at c; rw [Nat.mul_comm]; exact c
      have c3 : p * x * 1 ≤ p * x * prod r := Nat.mul_le_mul_left _ hr
      rw [if_pos c, if_neg (by omega)]
    · have c2 : p * x ≤ MX := by
        have := (Nat.le_div_iff_mul_le h1).1 (Nat.le_of_not_lt c); rw [Nat.mul_comm]; exact this
      rw [if_neg c]
      exact mulG_eq r (p * x) (Nat.mul_pos h1 hx) c2 (fun y hy => h y (List.mem_cons_of_mem _ hy))
theorem mulL_eq (l : List Nat) (h : ¬ 0 ∈ l) : mulL l = if prod l ≤ MX then some (prod l) else none := by
  unfold mulL
  rw [if_neg h, mulG_eq l 1 (Nat.le_refl _) (by decide) (fun x hx => Nat.pos_of_ne_zero (fun e => h (e ▸ hx))), Nat.one_mul]
theorem mulL_le {l : List Nat} {u : Nat} (h : mulL l = some u) : u ≤ MX := by
  by_cases c : 0 ∈ l
  · unfold mulL at h; rw [if_pos c] at h; cases h; exact Nat.zero_le _
  · rw [mulL_eq l c] at h
    split at h
    · cases h; assumption
    · cases h
theorem prod_append (a b : List Nat) : prod (a ++ b) = prod a * prod b := by
  induction a with
  | nil => simp [prod]
  | cons x a ih => show x * prod (a ++ b) = x * prod a * prod b; rw [ih, Nat.mul_assoc]
theorem mulL_one (n : Nat) (h : n ≤ MX) : mulL [n] = some n := by
  by_cases c : n = 0
  · subst c; decide
  · rw [mulL_eq _ (by simp; omega)]
    have e : prod [n] = n := by simp [prod]
    rw [e, if_pos h]
theorem mulL_two (n m : Nat) : mulL [n, m] = if n * m ≤ MX then some (n * m) else none := by
  by_cases c : n = 0 ∨ m = 0
  · have e : n * m = 0 := by rcases c with rfl | rfl <;> simp
    unfold mulL
    rw [if_pos (by simp; omega), e]; rfl
  · rw [mulL_eq _ (by simp; omega)]
    have e : prod [n, m] = n * m := by simp [prod]
    rw [e]
/-- Digits of a base that are at most so many: their number. -/
def dgN (B most : Nat) (l : List UInt8) : Option Nat := if most < l.length then none else dg B l
theorem dg_le {B : Nat} {l : List UInt8} {u : Nat} (h : dg B l = some u) : u ≤ MX := by
  unfold dg at h
  split at h
  · cases h
  · split at h
    · split at h
      · cases h; assumption
      · cases h
    · cases h
theorem dgN_le {B m : Nat} {l : List UInt8} {u : Nat} (h : dgN B m l = some u) : u ≤ MX := by
  unfold dgN at h
  split at h
  · cases h
  · exact dg_le h
theorem tm_le {l : List UInt8} {b : Nat} (h : tm l = some b) : 1 ≤ b ∧ b ≤ 1073741824 := by
  unfold tm at h
  by_cases c : l = []
  · rw [if_pos c] at h; cases h; decide
  rw [if_neg c] at h; clear c
  by_cases c : l = [99]
  · rw [if_pos c] at h; cases h; decide
  rw [if_neg c] at h; clear c
  by_cases c : l = [119]
  · rw [if_pos c] at h; cases h; decide
  rw [if_neg c] at h; clear c
  by_cases c : l = [98]
  · rw [if_pos c] at h; cases h; decide
  rw [if_neg c] at h; clear c
  by_cases c : l = [107, 66]
  · rw [if_pos c] at h; cases h; decide
  rw [if_neg c] at h; clear c
  by_cases c : l = [107]
  · rw [if_pos c] at h; cases h; decide
  rw [if_neg c] at h; clear c
  by_cases c : l = [75]
  · rw [if_pos c] at h; cases h; decide
  rw [if_neg c] at h; clear c
  by_cases c : l = [77, 66]
  · rw [if_pos c] at h; cases h; decide
  rw [if_neg c] at h; clear c
  by_cases c : l = [77]
  · rw [if_pos c] at h; cases h; decide
  rw [if_neg c] at h; clear c
  by_cases c : l = [71, 66]
  · rw [if_pos c] at h; cases h; decide
  rw [if_neg c] at h; clear c
  by_cases c : l = [71]
  · rw [if_pos c] at h; cases h; decide
  rw [if_neg c] at h; clear c
  cases h
def isD (c : UInt8) : Bool := decide (48 ≤ c.toNat) && decide (c.toNat ≤ 57)
/-- A part: digits, and a suffix. -/
def partL (l : List UInt8) : Option Nat := match dgN 10 19 (l.takeWhile isD), tm (l.dropWhile isD) with
  | some n, some m => mulL [n, m]
  | _, _ => none
/-- A text parted at a byte. -/
def pieces (c : UInt8) : List UInt8 → List (List UInt8)
  | [] => [[]]
  | x :: r => if x = c then [] :: pieces c r else match pieces c r with
    | p :: ps => (x :: p) :: ps
    | [] => [[x]]
def partsL : List (List UInt8) → Option (List Nat)
  | [] => some []
  | p :: ps => match partL p with
    | some n => (partsL ps).map (n :: ·)
    | none => none
/-- A product of numbers with suffixes. -/
def getL (l : List UInt8) : Option Nat := match partsL (pieces 120 l) with
  | some ns => mulL ns
  | none => none
theorem partL_le {l : List UInt8} {u : Nat} (h : partL l = some u) : u ≤ MX := by
  unfold partL at h
  split at h
  · exact mulL_le h
  · cases h
theorem pieces_ne (c : UInt8) (l : List UInt8) : pieces c l ≠ [] := by
  cases l with
  | nil => simp [pieces]
  | cons x r =>
    rw [pieces]
    split
    · simp
    · split <;> simp
theorem pieces_cons (c : UInt8) (l : List UInt8) : pieces c l = l.takeWhile (· ≠ c) :: (match l.dropWhile (· ≠ c) with
    | [] => []
    | _ :: r => pieces c r) := by
  induction l with
  | nil => rfl
  | cons x r ih =>
    rw [pieces]
    by_cases h : x = c
    · subst h
      rw [if_pos rfl]
      simp [List.takeWhile_cons, List.dropWhile_cons]
    · rw [if_neg h, ih]
      simp [List.takeWhile_cons, List.dropWhile_cons, h]
def jn (c : UInt8) : List (List UInt8) → List UInt8
  | [] => []
  | [x] => x
  | x :: y :: r => x ++ c :: jn c (y :: r)
theorem pieces_app (c : UInt8) : ∀ (x : List UInt8) (r : List UInt8), (∀ b ∈ x, b ≠ c) → pieces c (x ++ c :: r) = x :: pieces c r
  | [], r, _ => by rw [List.nil_append, pieces, if_pos rfl]
  | b :: x, r, h => by
    have h1 : ¬ b = c := h b List.mem_cons_self
    rw [List.cons_append, pieces, if_neg h1, pieces_app c x r (fun y hy => h y (List.mem_cons_of_mem _ hy))]
theorem pieces_none (c : UInt8) : ∀ (x : List UInt8), (∀ b ∈ x, b ≠ c) → pieces c x = [x]
  | [], _ => rfl
  | b :: x, h => by
    have h1 : ¬ b = c := h b List.mem_cons_self
    rw [pieces, if_neg h1, pieces_none c x (fun y hy => h y (List.mem_cons_of_mem _ hy))]
theorem pieces_jn (c : UInt8) : ∀ (ps : List (List UInt8)), ps ≠ [] → (∀ p ∈ ps, ∀ b ∈ p, b ≠ c) → pieces c (jn c ps) = ps
  | [], h, _ => absurd rfl h
  | [x], _, h => pieces_none c x (h x List.mem_cons_self)
  | x :: y :: r, _, h => by
    rw [jn, pieces_app c x _ (h x List.mem_cons_self), pieces_jn c (y :: r) (by simp) (fun p hp => h p (List.mem_cons_of_mem _ hp))]
/-! Digits written and read again. -/
theorem nu_app (B : Nat) : ∀ (l : List UInt8) (acc : Nat) (r : List UInt8), nu B acc (l ++ r) = (nu B acc l).bind fun u => nu B u r
  | [], acc, r => rfl
  | c :: l, acc, r => by
    simp only [List.cons_append, nu]
    split
    · exact nu_app B l _ r
    · rfl
theorem nu_zeros (B : Nat) (hB : 1 ≤ B) (l : List UInt8) : ∀ k, nu B 0 (List.replicate k 48 ++ l) = nu B 0 l
  | 0 => rfl
  | k + 1 => by
    have e : dv (48 : UInt8).toNat = 0 := by decide
    rw [List.replicate_succ, List.cons_append, nu, e, if_pos (by omega), Nat.zero_mul]
    exact nu_zeros B hB l k
theorem dec_lt {u : Nat} (h : u < 10) : decDigits u = [UInt8.ofNat (48 + u)] := by rw [decDigits, dif_pos h]
theorem dec_ge {u : Nat} (h : ¬ u < 10) : decDigits u = decDigits (u / 10) ++ [UInt8.ofNat (48 + u % 10)] := by rw [decDigits, dif_neg h]
theorem dv_dec : ∀ d : Fin 10, dv (UInt8.ofNat (48 + d)).toNat = d := by decide +kernel
theorem nu_dec (B : Nat) (hB : 10 ≤ B) : ∀ u : Nat, B = 10 → nu B 0 (decDigits u) = some u := by
  intro u hB2
  induction u using Nat.strongRecOn with
  | _ u ih =>
    by_cases h : u < 10
    · rw [dec_lt h]
      have := dv_dec ⟨u, h⟩
      simp only at this
      simp only [nu, this]
      rw [if_pos (by omega)]; simp
    · rw [dec_ge h, nu_app, ih (u / 10) (by omega)]
      have := dv_dec ⟨u % 10, by omega⟩
      simp only at this
      simp only [Option.bind_some, nu, this]
      rw [if_pos (by omega)]
      congr 1
      subst hB2; omega
theorem isD_dec : ∀ d : Fin 10, isD (UInt8.ofNat (48 + d)) = true := by decide +kernel
theorem dec_isD : ∀ (u : Nat) (c : UInt8), c ∈ decDigits u → isD c = true := by
  intro u
  induction u using Nat.strongRecOn with
  | _ u ih =>
    intro c hc
    by_cases h : u < 10
    · rw [dec_lt h] at hc
      obtain rfl := List.mem_singleton.1 hc
      exact isD_dec ⟨u, h⟩
    · rw [dec_ge h] at hc
      rcases List.mem_append.1 hc with hc | hc
      · exact ih (u / 10) (by omega) c hc
      · obtain rfl := List.mem_singleton.1 hc
        exact isD_dec ⟨u % 10, by omega⟩
theorem dec_len : ∀ (j u : Nat), u < 10 ^ (j + 1) → (decDigits u).length ≤ j + 1
  | 0, u, h => by rw [dec_lt (by simpa using h)]; simp
  | j + 1, u, h => by
    by_cases c : u < 10
    · rw [dec_lt c]; simp
    · rw [dec_ge c, List.length_append]
      have := dec_len j (u / 10) (by rw [Nat.pow_succ] at h; omega)
      simp; omega
theorem dec_pos (u : Nat) : 1 ≤ (decDigits u).length := by
  by_cases c : u < 10
  · rw [dec_lt c]; simp
  · rw [dec_ge c]; simp
/-- The first digit of a number that is not 0 is none. -/
theorem dec_head : ∀ u : Nat, 1 ≤ u → ∃ c r, decDigits u = c :: r ∧ c ≠ 48 := by
  intro u
  induction u using Nat.strongRecOn with
  | _ u ih =>
    intro h1
    by_cases h : u < 10
    · refine ⟨_, [], dec_lt h, ?_⟩
      have : ∀ d : Fin 10, 1 ≤ (d : Nat) → UInt8.ofNat (48 + d) ≠ 48 := by decide +kernel
      exact this ⟨u, h⟩ h1
    · obtain ⟨c, r, e, hc⟩ := ih (u / 10) (by omega) (by omega)
      exact ⟨c, r ++ [UInt8.ofNat (48 + u % 10)], by rw [dec_ge h, e]; rfl, hc⟩
theorem dg_dec (u : Nat) (h : u ≤ MX) : dg 10 (decDigits u) = some u := by
  have hne : decDigits u ≠ [] := fun e => by have := dec_pos u; rw [e] at this; simp at this
  unfold dg
  rw [if_neg hne, nu_dec 10 (by omega) u rfl]
  exact if_pos h
theorem dg_dec_no (u : Nat) (h : MX < u) : dg 10 (decDigits u) = none := by
  unfold dg
  split
  · rfl
  · rw [nu_dec 10 (by omega) u rfl]
    simp only
    rw [if_neg (by unfold MX at h; omega)]
/-! Base 16. -/
def hu (d : Nat) : UInt8 := upperB (hl d)
theorem dv_hex : ∀ d : Fin 16, dv (upperB (hl d)).toNat = d := by decide +kernel
theorem upper_lt {u : Nat} (h : u < 16) : toUpperA (hexl u) = [upperB (hl u)] := by rw [hexl_lt h]; rfl
theorem upper_ge {u : Nat} (h : ¬ u < 16) : toUpperA (hexl u) = toUpperA (hexl (u / 16)) ++ [upperB (hl (u % 16))] := by
  rw [hexl_ge h]; unfold toUpperA; rw [List.map_append]; rfl
theorem nu_hex : ∀ u : Nat, nu 16 0 (toUpperA (hexl u)) = some u := by
  intro u
  induction u using Nat.strongRecOn with
  | _ u ih =>
    by_cases h : u < 16
    · rw [upper_lt h]
      have := dv_hex ⟨u, h⟩
      simp only at this
      simp only [nu, this]
      rw [if_pos h]; simp
    · rw [upper_ge h, nu_app, ih (u / 16) (by omega)]
      have := dv_hex ⟨u % 16, by omega⟩
      simp only at this
      simp only [Option.bind_some, nu, this]
      rw [if_pos (by omega)]
      congr 1
      omega
theorem upper_len (u : Nat) : (toUpperA (hexl u)).length = (hexl u).length := List.length_map ..
theorem hexT_eq (u : Nat) : hexT u = [48, 120] ++ (List.replicate (8 - (hexl u).length) 48 ++ toUpperA (hexl u)) := by unfold hexT; rw [List.append_assoc]
end Go.Proofs.YtlcablcpcbmgeaaGreatDoor.Num
end

section
namespace Go.Proofs.YtlcablcpcbmgeaaGreatDoor.PureN
open Go.RowKit Go.Proofs.YtlcablcpcbmgeaaGreatDoorW.PrintWords Go.Proofs.YtlcablcpcbmgeaaGreatDoorW.PrintLast Go.Proofs.YtlcablcpcbmgeaaGreatDoor.P Go.Proofs.YtlcablcpcbmgeaaGreatDoor.Num
-- names: num_digits.f num_GetDec.f num_GetHex.f num_Dec.f num_Hex.f strings_CutPrefix.f strconv_Itoa_52.f strconv_FormatInt_56.f strings_ToUpper.f strings_Repeat.f
set_option linter.unusedVariables false
set_option linter.unusedSimpArgs false
theorem wrap_nat (n : Nat) (h : n ≤ 4611686018427387904) : wrap64 (n : Int) = (n : Int) := by unfold wrap64; omega
theorem wrap_succ (n : Nat) (h : n < 4611686018427387904) : wrap64 ((n : Int) + 1) = ((n + 1 : Nat) : Int) := by unfold wrap64; omega
theorem data_len (s : ByteArray) : s.data.toList.length = s.size := Array.length_toList
theorem bt_data (s : ByteArray) (j : Nat) (hj : j < s.size) : bt s j = ((s.data.toList[j]'(by rw [Array.length_toList]; exact hj)).toNat : Int) := by
  have := bt_at s (j : Int) (by simpa using hj)
  rw [← this]
  simp
  rfl
theorem ext_take (s : ByteArray) (n : Nat) : (s.extract 0 n).data.toList = s.data.toList.take n := by
  rw [Lib.extract_data]; simp
theorem ext_drop (s : ByteArray) (n : Nat) : (s.extract n s.size).data.toList = s.data.toList.drop n := Lib.extract_to_end s n
theorem digits_f (s : ByteArray) (B most : Nat) (hB : B = 10 ∨ B = 16) (hs : s.size ≤ 100000) : num_digits.f s (B : Int) (most : Int) = some (val (dgN B most s.data.toList)) := by
  unfold num_digits.f dgN
  rw [data_len]
  by_cases h : most < s.size
  · rw [if_pos (by omega), if_pos h]; rfl
  · rw [if_neg (by omega), if_neg h, if_pos ⟨by omega, hs⟩]
    rfl
theorem val_pair (x : Option Nat) : (some (val x)).bind (fun bt => some (bt.1, bt.2)) = some (val x) := by cases x <;> rfl
theorem tv_val (x : Option Nat) : tv x = val x := by cases x <;> rfl
theorem occ_bt (s : ByteArray) (c : UInt8) (j : Nat) (hj : j < s.size) : Lib.occAt s.data.toList [c] j = decide (bt s j = (c.toNat : Int)) := by
  have hl : s.data.toList.length = s.size := Array.length_toList
  unfold Lib.occAt
  rw [List.drop_eq_getElem_cons (by rw [hl]; exact hj)]
  have e : bt s j = ((s.data.toList[j]'(by rw [hl]; exact hj)).toNat : Int) := by
    have := bt_at s (j : Int) (by simpa using hj)
    rw [← this]
    simp
    rfl
  rw [e]
  generalize s.data.toList[j] = a
  simp only [List.isPrefixOf, Bool.and_true]
  by_cases h : c = a
  · subst h; simp
  · have h2 : ¬ (a.toNat : Int) = (c.toNat : Int) := fun e => h (UInt8.toNat_inj.1 (by omega)).symm
    simp [h, h2]
theorem words_ok (c : UInt8) : ∀ (k : Nat) (s : ByteArray), Lib.countB s ⟨#[c]⟩ = k → jn c ((Lib.splitB ⟨#[c]⟩ 0 k s).map (·.data.toList)) = s.data.toList ∧ ∀ p ∈ Lib.splitB ⟨#[c]⟩ 0 k s, ∀ j : Nat, j < p.size → bt p j ≠ (c.toNat : Int)
  | k, s, hk => by
    have hl : s.data.toList.length = s.size := Array.length_toList
    rcases Lib.indexB_cases s ⟨#[c]⟩ with h | ⟨i, h, hi⟩
    · rw [Lib.splitB_miss _ _ _ _ h]
      refine ⟨rfl, fun p hp j hj e => ?_⟩
      obtain rfl := List.mem_singleton.1 hp
      rcases Lib.index_spec p.data.toList [c] with ⟨_, h2⟩ | ⟨i, h1, h2, h3, _⟩
      · have := h2 j (by rw [hl]; omega)
        rw [occ_bt p c j hj, decide_eq_false_iff_not] at this
        exact this e
      · have h' : Lib.index p.data.toList [c] = -1 := h
        omega
    · have hsz : (⟨#[c]⟩ : ByteArray).size = 1 := rfl
      rw [hsz] at hi
      have hc := Lib.countB_hit s ⟨#[c]⟩ i (by rw [hsz]; omega) h
      rw [hsz] at hc
      cases k with
      | zero => omega
      | succ k =>
        rw [Lib.splitB_hit _ _ _ _ _ h, hsz, Nat.add_zero]
        obtain ⟨h1, h2⟩ := words_ok c k (s.extract (i + 1) s.size) (by omega)
        have hix : Lib.index s.data.toList [c] = i := h
        have hno : Lib.NoOcc s.data.toList [c] i ∧ Lib.occAt s.data.toList [c] i = true := by
          rcases Lib.index_spec s.data.toList [c] with ⟨h3, _⟩ | ⟨j, h3, h4, h5, h6⟩
          · omega
          · obtain rfl : i = j := by omega
            exact ⟨h6, h5⟩
        obtain ⟨hno, hoc⟩ := hno
        rw [occ_bt s c i (by omega), decide_eq_true_iff] at hoc
        refine ⟨?_, fun p hp j hj => ?_⟩
        · have hne : Lib.splitB ⟨#[c]⟩ 0 k (s.extract (i + 1) s.size) ≠ [] := by
            intro e
            have := Lib.splitB_all ⟨#[c]⟩ (by rw [hsz]; omega) 0 k (s.extract (i + 1) s.size) (by omega)
            rw [e] at this; simp at this
          obtain ⟨y, r, hyr⟩ := List.exists_cons_of_ne_nil hne
          rw [hyr] at h1 ⊢
          simp only [List.map_cons] at h1 ⊢
          rw [jn, h1, Lib.extract_from_zero, Lib.extract_to_end]
          have hci : s.data.toList[i]'(by rw [hl]; omega) = c := by
            rw [bt_data s i (by omega)] at hoc
            exact UInt8.toNat_inj.1 (Int.ofNat_inj.1 hoc)
          conv => rhs; rw [← List.take_append_drop i s.data.toList]
          rw [List.drop_eq_getElem_cons (i := i) (l := s.data.toList) (by rw [hl]; omega), hci]
        · rcases List.mem_cons.1 hp with rfl | hp
          · have hps : (s.extract 0 i).size = i := by
              have := congrArg List.length (Lib.extract_from_zero s i)
              rw [Array.length_toList, List.length_take, hl] at this
              have h9 : (s.extract 0 i).size = (s.extract 0 i).data.size := rfl
              omega
            rw [hps] at hj
            have e1 : bt (s.extract 0 i) j = bt s j := by
              rw [bt_data _ j (by omega), bt_data s j (by omega)]
              simp only [Lib.extract_from_zero]
              rw [List.getElem_take]
            rw [e1]
            have := hno j hj
            rw [occ_bt s c j (by omega), decide_eq_false_iff_not] at this
            exact this
          · exact h2 p hp j hj
/-- Split at one byte. -/
theorem split_pieces (c : UInt8) (s : ByteArray) : (Lib.splitB ⟨#[c]⟩ 0 (Lib.countB s ⟨#[c]⟩) s).map (·.data.toList) = pieces c s.data.toList := by
  obtain ⟨h1, h2⟩ := words_ok c _ s rfl
  have hne : Lib.splitB ⟨#[c]⟩ 0 (Lib.countB s ⟨#[c]⟩) s ≠ [] := by
    intro e
    have := Lib.splitB_all ⟨#[c]⟩ (by show 1 ≤ 1; omega) 0 (Lib.countB s ⟨#[c]⟩) s rfl
    rw [e] at this; simp at this
  rw [← h1, pieces_jn c _ (by simpa using hne)]
  intro p hp b hb
  obtain ⟨q, hq, rfl⟩ := List.mem_map.1 hp
  obtain ⟨j, hj, rfl⟩ := List.getElem_of_mem hb
  have hj2 : j < q.size := by rw [← data_len]; exact hj
  have := h2 q hq j hj2
  rw [bt_data q j hj2] at this
  intro e
  rw [e] at this
  exact this rfl
theorem pieces_size (c : UInt8) (l : List UInt8) : (∀ p ∈ pieces c l, p.length ≤ l.length) ∧ (pieces c l).length ≤ l.length + 1 := by
  induction l with
  | nil => simp [pieces]
  | cons x r ih =>
    obtain ⟨h1, h2⟩ := ih
    rw [pieces]
    split
    · refine ⟨fun p hp => ?_, by simp; omega⟩
      rcases List.mem_cons.1 hp with rfl | hp
      · simp
      · have := h1 p hp; simp; omega
    · split
      · next p ps e =>
        rw [e] at h1 h2
        refine ⟨fun q hq => ?_, by simp at h2 ⊢; omega⟩
        rcases List.mem_cons.1 hq with rfl | hq
        · have := h1 p List.mem_cons_self; simp; omega
        · have := h1 q (List.mem_cons_of_mem _ hq); simp; omega
      · refine ⟨fun q hq => ?_, by simp⟩
        obtain rfl := List.mem_singleton.1 hq
        simp
theorem getDec_f (s : ByteArray) (hs : s.size ≤ 100000) : num_GetDec.f s = some (val (if 1 < s.size ∧ s.data.toList.head? = some 48 then none else dgN 10 19 s.data.toList)) := by
  have hd := digits_f s 10 19 (.inl rfl) hs
  replace hd : num_digits.f s 10 19 = some (val (dgN 10 19 s.data.toList)) := hd
  unfold num_GetDec.f
  by_cases h : 1 < s.size
  · have hb := bt_data s 0 (by omega)
    have hh : s.data.toList.head? = some (s.data.toList[0]'(by rw [data_len]; omega)) := by
      rw [List.head?_eq_getElem?, List.getElem?_eq_getElem]
    rw [if_pos (by omega), if_pos (by omega), show bt s 0 = _ from hb, hd]
    by_cases c : (s.data.toList[0]'(by rw [data_len]; omega)) = 48
    · rw [c, if_pos (by decide), if_pos ⟨h, by rw [hh, c]⟩]; rfl
    · rw [if_neg (by intro e; exact c (UInt8.toNat_inj.1 (by have : ((48 : UInt8).toNat : Int) = 48 := rfl; omega))), if_neg (by rintro ⟨_, e⟩; rw [hh] at e; exact c (Option.some.inj e))]
      exact val_pair _
  · rw [if_neg (by omega), if_neg (by omega), hd]
    exact val_pair _
theorem pre_0x (l : List UInt8) : Lib.hasPrefix l [48, 120] = true ↔ l.take 2 = [48, 120] := by
  unfold Lib.hasPrefix
  rcases l with _ | ⟨x, _ | ⟨y, r⟩⟩
  · simp [List.isPrefixOf]
  · simp [List.isPrefixOf]
  · constructor
    · intro h
      simp [List.isPrefixOf] at h
      obtain ⟨rfl, rfl⟩ := h
      rfl
    · intro h
      simp at h
      obtain ⟨rfl, rfl⟩ := h
      rfl
theorem getHex_f (s : ByteArray) (hs : s.size ≤ 100000) : num_GetHex.f s = some (val (if s.data.toList.take 2 = [48, 120] then dgN 16 16 (s.data.toList.drop 2) else none)) := by
  unfold num_GetHex.f strings_CutPrefix.f
  rw [Option.bind_some, show (⟨#[48, 120]⟩ : ByteArray).data.toList = [48, 120] from rfl]
  by_cases h : s.data.toList.take 2 = [48, 120]
  · have h2 := (pre_0x s.data.toList).2 h
    have ht : Lib.trimPrefix s.data.toList [48, 120] = s.data.toList.drop 2 := by
      unfold Lib.trimPrefix
      rw [if_pos h2]; rfl
    have hd := digits_f ⟨(s.data.toList.drop 2).toArray⟩ 16 16 (.inr rfl) (by
      show (List.toArray _).size ≤ _; rw [List.size_toArray, List.length_drop, data_len]; omega)
    have e2 : (⟨(s.data.toList.drop 2).toArray⟩ : ByteArray).data.toList = s.data.toList.drop 2 := by simp
    rw [e2] at hd
    rw [ht, h2, if_pos h]
    show ((num_digits.f ⟨(s.data.toList.drop 2).toArray⟩ 16 16).bind fun bt128 => some (bt128.1, bt128.2)) = _
    rw [show num_digits.f ⟨(s.data.toList.drop 2).toArray⟩ 16 16 = _ from hd]
    exact val_pair _
  · have h2 : Lib.hasPrefix s.data.toList [48, 120] = false := by
      cases c : Lib.hasPrefix s.data.toList [48, 120] with
      | false => rfl
      | true => exact absurd ((pre_0x _).1 c) h
    rw [h2, if_neg h]; rfl
theorem itoa_f (n : Int) (h0 : -9223372036854775808 ≤ n) (h1 : n ≤ 9223372036854775807) : num_Dec.f n = some ⟨(Lib.itoa n).toArray⟩ := by
  unfold num_Dec.f strconv_Itoa_52.f
  rw [if_pos ⟨h0, h1⟩]; rfl
theorem hex_f (n : Int) (h1 : n ≤ 9223372036854775807) : num_Hex.f n = some (if n < 0 then ⟨#[]⟩ else ⟨(hexT n.toNat).toArray⟩) := by
  unfold num_Hex.f
  by_cases h : n < 0
  · rw [if_pos h, if_pos h]
  · rw [if_neg h, if_neg h, if_pos h1]
end Go.Proofs.YtlcablcpcbmgeaaGreatDoor.PureN
end

section
namespace Go.Proofs.YtlcablcpcbmgeaaGreatDoor.Num
open Go.Lib
set_option linter.unusedVariables false
set_option linter.unusedSimpArgs false
theorem isD_ne (c : UInt8) (h : isD c = true) : c ≠ 120 ∧ c ≠ 45 := by
  constructor
  · rintro rfl; exact absurd h (by decide)
  · rintro rfl; exact absurd h (by decide)
theorem while_all {α : Type} (p : α → Bool) (l : List α) (h : ∀ x ∈ l, p x = true) : l.takeWhile p = l ∧ l.dropWhile p = [] := by
  induction l with
  | nil => exact ⟨rfl, rfl⟩
  | cons x r ih =>
    obtain ⟨h1, h2⟩ := ih (fun y hy => h y (List.mem_cons_of_mem _ hy))
    rw [List.takeWhile_cons, List.dropWhile_cons, h x List.mem_cons_self]
    exact ⟨by simp [h1], by simp [h2]⟩
theorem partL_sfx (l t : List UInt8) (h : ∀ c ∈ l, isD c = true) (ht : t.takeWhile isD = []) (ht2 : t.dropWhile isD = t) : partL (l ++ t) = match dgN 10 19 l, tm t with
  | some n, some m => mulL [n, m]
  | _, _ => none := by
  unfold partL
  rw [List.takeWhile_append_of_pos h, List.dropWhile_append_of_pos h, ht, ht2, List.append_nil]
  try (cases dgN 10 19 l <;> cases tm t <;> rfl)
theorem getL_digits (l : List UInt8) (h : ∀ c ∈ l, isD c = true) : getL l = dgN 10 19 l := by
  have hp := pieces_none 120 l (fun c hc => (isD_ne c (h c hc)).1)
  have h2 := partL_sfx l [] h rfl rfl
  rw [List.append_nil] at h2
  unfold getL
  rw [hp, partsL, h2, partsL]
  cases e : dgN 10 19 l with
  | none => rfl
  | some n =>
    have hn := dgN_le e
    have e1 : tm [] = some 1 := rfl
    rw [e1]
    simp only
    rw [mulL_two, if_pos (by omega), Nat.mul_one]
    simp only [Option.map_some]
    exact mulL_one n hn
theorem dgN_dec (u : Nat) (h : u < 10 ^ 19) : dgN 10 19 (decDigits u) = if u ≤ MX then some u else none := by
  have hl := dec_len 18 u h
  unfold dgN
  rw [if_neg (by omega)]
  by_cases c : u ≤ MX
  · rw [if_pos c]; exact dg_dec u c
  · rw [if_neg c]; exact dg_dec_no u (by omega)
theorem dgN_hex (u : Nat) (h : u < 16 ^ 16) : dgN 16 16 ((hexT u).drop 2) = if u ≤ MX then some u else none := by
  have hl := hexl_len 15 u h
  have hp := hexl_pos u
  have e : (hexT u).drop 2 = List.replicate (8 - (hexl u).length) 48 ++ toUpperA (hexl u) := by rw [hexT_eq]; rfl
  have hlen : ((hexT u).drop 2).length = 8 - (hexl u).length + (hexl u).length := by rw [e, List.length_append, List.length_replicate, upper_len]
  unfold dgN dg
  rw [if_neg (by omega), if_neg (fun h => by rw [h] at hlen; simp at hlen; omega), e, nu_zeros 16 (by omega), nu_hex u]
  rfl
theorem hexT_len (u : Nat) : 10 ≤ (hexT u).length := by
  rw [hexT_eq]
  simp only [List.length_append, List.length_replicate, upper_len, List.length_cons, List.length_nil]
  omega
/-- Decimal digits as digits of base 16. -/
theorem nu16 : ∀ (l : List UInt8) (acc : Nat), (∀ c ∈ l, isD c = true) → ∃ v, nu 16 acc l = some v ∧ v + 1 ≤ (acc + 1) * 16 ^ l.length
  | [], acc, _ => ⟨acc, rfl, by simp⟩
  | c :: r, acc, h => by
    have hc := h c List.mem_cons_self
    have hd : dv c.toNat < 10 := by
      unfold isD at hc
      rw [Bool.and_eq_true, decide_eq_true_iff, decide_eq_true_iff] at hc
      unfold dv; rw [if_pos hc]; omega
    obtain ⟨v, h1, h2⟩ := nu16 r (acc * 16 + dv c.toNat) (fun x hx => h x (List.mem_cons_of_mem _ hx))
    refine ⟨v, by rw [nu, if_pos (by omega)]; exact h1, Nat.le_trans h2 ?_⟩
    rw [List.length_cons, Nat.pow_succ, Nat.mul_comm (16 ^ r.length) 16, ← Nat.mul_assoc]
    exact Nat.mul_le_mul_right _ (by omega)
theorem zeros_isD (m : Nat) (l : List UInt8) (h : ∀ c ∈ l, isD c = true) : ∀ c ∈ List.replicate m 48 ++ l, isD c = true := by
  intro c hc
  rcases List.mem_append.1 hc with hc | hc
  · rw [List.eq_of_mem_replicate hc]; decide
  · exact h c hc
theorem dgN_zeros (m n : Nat) (hn : n < 10 ^ 10) (hm : m ≤ 6) : dgN 10 19 (List.replicate m 48 ++ decDigits n) = some n := by
  have hl := dec_len 9 n hn
  have hp := dec_pos n
  have hlen : (List.replicate m (48 : UInt8) ++ decDigits n).length = m + (decDigits n).length := by rw [List.length_append, List.length_replicate]
  unfold dgN dg
  rw [if_neg (by omega), if_neg (fun h => by rw [h] at hlen; simp at hlen; omega), nu_zeros 10 (by omega), nu_dec 10 (by omega) n rfl]
  exact if_pos (by omega)
theorem dgN_zeros16 (m n : Nat) (hn : n < 10 ^ 10) (hm : m ≤ 6) : ∃ v, dgN 16 16 (List.replicate m 48 ++ decDigits n) = some v ∧ dgN 16 16 (decDigits n) = some v := by
  have hl := dec_len 9 n hn
  have hp := dec_pos n
  obtain ⟨v, h1, h2⟩ := nu16 (decDigits n) 0 (dec_isD n)
  have h3 : 16 ^ (decDigits n).length ≤ 16 ^ 10 := Nat.pow_le_pow_right (by omega) hl
  have hv : v ≤ 4611686018427387904 := by omega
  have key : ∀ m, m ≤ 6 → dgN 16 16 (List.replicate m 48 ++ decDigits n) = some v := by
    intro m hm
    have hlen : (List.replicate m (48 : UInt8) ++ decDigits n).length = m + (decDigits n).length := by rw [List.length_append, List.length_replicate]
    unfold dgN dg
    rw [if_neg (by omega), if_neg (fun h => by rw [h] at hlen; simp at hlen; omega), nu_zeros 16 (by omega), h1]
    exact if_pos hv
  exact ⟨v, key m hm, key 0 (by omega)⟩
end Go.Proofs.YtlcablcpcbmgeaaGreatDoor.Num
end

section
namespace Go.Proofs.YtlcablcpcbmgeaaGreatDoor.PureM
open Go.RowKit Go.Proofs.YtlcablcpcbmgeaaGreatDoorW.PrintWords Go.Proofs.YtlcablcpcbmgeaaGreatDoorW.PrintLast Go.Proofs.YtlcablcpcbmgeaaGreatDoor.P Go.Proofs.YtlcablcpcbmgeaaGreatDoor.Num Go.Proofs.YtlcablcpcbmgeaaGreatDoor.PureN Go.Proofs.YtlcablcpcbmgeaaGreatDoor.Reg
set_option linter.unusedVariables false
set_option linter.unusedSimpArgs false
def mayMap (pos pass st : Int) (l : List S23) : Bool := mayL 0 none l && (decide (0 ≤ pos) && (decide (pos ≤ endOf 0 l) && (decide (0 ≤ pass) && (decide (pass ≤ 20) && isS st))))
theorem mayMap_ev (pos pass st : Int) (l : List S23) (hl : l.length ≤ 4611686018427387904) : Ev (fun k => maptext_May.f k pos pass st l) (mayMap pos pass st l) := by
  obtain ⟨Ka, hKa⟩ := may l hl
  obtain ⟨Kb, hKb⟩ := end_ev l hl
  refine ⟨Ka + Kb, fun k hk => ?_⟩
  have ea := hKa k (by omega)
  have eb := hKb k (by omega)
  simp only at ea eb
  show maptext_May.f k pos pass st l = some (mayMap pos pass st l)
  unfold maptext_May.f mayMap
  rw [ea, Option.bind_some]
  cases hm : mayL 0 none l with
  | false => rfl
  | true =>
    rw [hm, if_pos rfl] at eb
    rw [if_pos rfl, Bool.true_and, eb]
    by_cases h0 : 0 ≤ pos
    · rw [if_pos (show pos ≥ 0 from h0), decide_eq_true h0, Bool.true_and, Option.bind_some]
      by_cases h1 : pos ≤ endOf 0 l
      · rw [if_pos h1, decide_eq_true h1, Bool.true_and]
        by_cases h2 : 0 ≤ pass
        · rw [if_pos (show pass ≥ 0 from h2), decide_eq_true h2, Bool.true_and]
          by_cases h3 : pass ≤ 20
          · rw [if_pos h3, decide_eq_true h3, Bool.true_and, is_eq]; rfl
          · rw [if_neg h3, decide_eq_false h3, Bool.false_and]
        · rw [if_neg (show ¬ pass ≥ 0 from h2), decide_eq_false h2, Bool.false_and]
      · rw [if_neg h1, decide_eq_false h1, Bool.false_and]
    · rw [if_neg (show ¬ pos ≥ 0 from h0), decide_eq_false h0, Bool.false_and]
theorem isS_ok {c : Int} (h : isS c = true) : stOk c := by
  simp only [isS, Bool.or_eq_true, beq_iff_eq] at h
  unfold stOk; omega
end Go.Proofs.YtlcablcpcbmgeaaGreatDoor.PureM
end

section
-- names: maptext_split.f
namespace Go.Proofs.YtlcablcpcbmgeaaGreatDoor.PureM
open Go.RowKit Go.Lib Go.Proofs.YtlcablcpcbmgeaaGreatDoor.P
set_option linter.unusedVariables false
set_option linter.unusedSimpArgs false
def spansB (s : ByteArray) : Nat → Nat → Option Nat → List (Nat × Nat) → List (Nat × Nat) × Option Nat
  | 0, _, st, acc => (acc, st)
  | f + 1, pos, st, acc =>
    if pos < s.size then
      if isBl (s.get! pos).toNat then
        (match st with
         | some a => spansB s f (pos + 1) none (acc ++ [(a, pos)])
         | none => spansB s f (pos + 1) none acc)
      else spansB s f (pos + 1) (some (st.getD pos)) acc
    else (acc, st)
theorem spansB_skip (s : ByteArray) (a : Nat) (acc : List (Nat × Nat)) : ∀ (w f pos : Nat), pos + w ≤ s.size → (∀ j, j < w → isBl (s.get! (pos + j)).toNat = false) → spansB s (f + w) pos (some a) acc = spansB s f (pos + w) (some a) acc
  | 0, _, _, _, _ => rfl
  | w + 1, f, pos, h, hb => by
    have h0 : isBl (s.get! pos).toNat = false := hb 0 (by omega)
    rw [show f + (w + 1) = (f + w) + 1 by omega, spansB, if_pos (by omega), h0]
    simp only [Bool.false_eq_true, if_false, Option.getD_some]
    rw [spansB_skip s a acc w f (pos + 1) (by omega) (fun j hj => by rw [show pos + 1 + j = pos + (j + 1) by omega]; exact hb (j + 1) (by omega)), show pos + 1 + w = pos + (w + 1) by omega]
theorem isBl_big (r : Nat) (h : 128 ≤ r) : isBl r = false := by
  unfold isBl
  rw [beq_eq_false_iff_ne.mpr (show r ≠ 32 by omega), beq_eq_false_iff_ne.mpr (show r ≠ 9 by omega)]; rfl
/-- A rune that is no ASCII one: its bytes are none. -/
theorem decode_big (s : ByteArray) (pos : Nat) (hp : pos < s.size) (hb : ¬ (s.get! pos).toNat < 128) :
    128 ≤ (Utf8.decode s pos).1 ∧ 1 ≤ (Utf8.decode s pos).2 ∧ pos + (Utf8.decode s pos).2 ≤ s.size ∧ ∀ j, j < (Utf8.decode s pos).2 → isBl (s.get! (pos + j)).toNat = false := by
  rw [decode_at]
  have h0 : isBl (s.get! (pos + 0)).toNat = false := isBl_big _ (by simp only [Nat.add_zero]; omega)
  rcases decodeN_shape (s.size - pos) (s.get! pos).toNat (s.get! (pos + 1)).toNat (s.get! (pos + 2)).toNat (s.get! (pos + 3)).toNat with h | ⟨_, hn, h1, hr, e⟩ | ⟨_, hn, h1, h2, hr, _, e⟩ | ⟨_, hn, h1, h2, h3, hr, _, e⟩ | e
  · exact absurd h.1 hb
  · rw [e]
    refine ⟨hr, by show 1 ≤ 2; omega, by show pos + 2 ≤ _; omega, fun j hj => ?_⟩
    have hj' : j < 2 := hj
    rcases (show j = 0 ∨ j = 1 by omega) with rfl | rfl
    · exact h0
    · exact isBl_big _ (by omega)
  · rw [e]
    refine ⟨by show 128 ≤ _; omega, by show 1 ≤ 3; omega, by show pos + 3 ≤ _; omega, fun j hj => ?_⟩
    have hj' : j < 3 := hj
    rcases (show j = 0 ∨ j = 1 ∨ j = 2 by omega) with rfl | rfl | rfl
    · exact h0
    · exact isBl_big _ (by omega)
    · exact isBl_big _ (by omega)
  · rw [e]
    refine ⟨by show 128 ≤ _; omega, by show 1 ≤ 4; omega, by show pos + 4 ≤ _; omega, fun j hj => ?_⟩
    have hj' : j < 4 := hj
    rcases (show j = 0 ∨ j = 1 ∨ j = 2 ∨ j = 3 by omega) with rfl | rfl | rfl | rfl
    · exact h0
    · exact isBl_big _ (by omega)
    · exact isBl_big _ (by omega)
    · exact isBl_big _ (by omega)
  · rw [e]
    refine ⟨by decide, by decide, by show pos + 1 ≤ _; omega, fun j hj => ?_⟩
    have hj' : j < 1 := hj
    obtain rfl : j = 0 := by omega
    exact h0
theorem decode_small (s : ByteArray) (pos : Nat) (hb : (s.get! pos).toNat < 128) : Utf8.decode s pos = ((s.get! pos).toNat, 1) := by
  rw [decode_at]
  unfold decodeN
  rw [if_pos hb]
theorem spans_bytes (s : ByteArray) : ∀ (f pos : Nat) (st : Option Nat) (acc : List (Nat × Nat)), s.size ≤ pos + f → spansFromP isBl s f pos st acc = spansB s (s.size - pos) pos st acc
  | 0, pos, st, acc, h => by
    rw [show s.size - pos = 0 by omega]; rfl
  | f + 1, pos, st, acc, h => by
    unfold spansFromP
    by_cases hp : pos < s.size
    · rw [if_pos hp]
      obtain ⟨n, hn⟩ : ∃ n, s.size - pos = n + 1 := ⟨s.size - pos - 1, by omega⟩
      rw [hn]
      unfold spansB
      rw [if_pos hp]
      by_cases hb : (s.get! pos).toNat < 128
      · rw [decode_small s pos hb]
        have e : n = s.size - (pos + 1) := by omega
        simp only
        by_cases hbl : isBl (s.get! pos).toNat = true
        · rw [if_pos hbl, if_pos hbl]
          cases st <;> simp only [e] <;> exact spans_bytes s f _ _ _ (by omega)
        · rw [if_neg hbl, if_neg hbl]
          cases st <;> simp only [e, Option.getD_some, Option.getD_none] <;> exact spans_bytes s f _ _ _ (by omega)
      · obtain ⟨h1, h2, h3, h4⟩ := decode_big s pos hp hb
        have h5 : ¬ isBl (Utf8.decode s pos).1 = true := by rw [isBl_big _ h1]; simp
        have h6 : ¬ isBl (s.get! pos).toNat = true := by rw [isBl_big _ (by omega)]; simp
        rw [if_neg h5, if_neg h6]
        generalize hw : (Utf8.decode s pos).2 = w at h2 h3 h4
        have key : ∀ a, spansFromP isBl s f (pos + w) (some a) acc = spansB s n (pos + 1) (some a) acc := fun a => by
          rw [spans_bytes s f (pos + w) (some a) acc (by omega), show n = (s.size - (pos + w)) + (w - 1) by omega,
            spansB_skip s a acc (w - 1) (s.size - (pos + w)) (pos + 1) (by omega) (fun j hj => by rw [show pos + 1 + j = pos + (j + 1) by omega]; exact h4 (j + 1) (by omega)), show pos + 1 + (w - 1) = pos + w by omega]
        cases st with
        | none => exact key pos
        | some a => exact key a
    · rw [if_neg hp, show s.size - pos = 0 by omega]; rfl
end Go.Proofs.YtlcablcpcbmgeaaGreatDoor.PureM
end

section
namespace Go.Proofs.YtlcablcpcbmgeaaGreatDoor.PureM
open Go.RowKit Go.Lib Go.Proofs.YtlcablcpcbmgeaaGreatDoorW.PrintWords Go.Proofs.YtlcablcpcbmgeaaGreatDoorW.PrintLast Go.Proofs.YtlcablcpcbmgeaaGreatDoor.P
set_option linter.unusedVariables false
set_option linter.unusedSimpArgs false
def exs (s : ByteArray) (acc : List (Nat × Nat)) : List ByteArray := acc.map fun x => s.extract x.1 x.2
theorem bt_get (s : ByteArray) (i : Nat) : bt s (i : Int) = ((s.get! i).toNat : Int) := by
  unfold bt
  by_cases h : i < s.size
  · rw [dif_pos (show ((i : Int)).toNat < s.size by rw [Int.toNat_natCast]; exact h)]
    show ((s.data[i]'h).toNat : Int) = ((s.data[i]!).toNat : Int)
    rw [getElem!_pos s.data i h]
  · rw [dif_neg (show ¬ ((i : Int)).toNat < s.size by rw [Int.toNat_natCast]; exact h)]
    show (0 : Int) = ((s.data[i]!).toNat : Int)
    rw [getElem!_neg s.data i h]
    rfl
theorem ws1 (n : Nat) (h : n < 4611686018427387904) : wrap64 ((n : Int) + 1) = ((n + 1 : Nat) : Int) := by unfold wrap64; omega
theorem exs_snoc (s : ByteArray) (acc : List (Nat × Nat)) (a b : Nat) : exs s acc ++ [s.extract ((a : Int)).toNat ((b : Int)).toNat] = exs s (acc ++ [(a, b)]) := by
  simp [exs]
end Go.Proofs.YtlcablcpcbmgeaaGreatDoor.PureM
end

section
namespace Go.Proofs.YtlcablcpcbmgeaaGreatDoor.PureM
open Go.RowKit Go.Lib Go.Proofs.YtlcablcpcbmgeaaGreatDoorW.PrintWords Go.Proofs.YtlcablcpcbmgeaaGreatDoorW.PrintLast Go.Proofs.YtlcablcpcbmgeaaGreatDoor.P
set_option linter.unusedVariables false
set_option linter.unusedSimpArgs false
theorem close_lt (s : ByteArray) (acc : List (Nat × Nat)) (st : Option Nat) (pos : Nat) (hp : pos ≤ s.size) (ha : ∀ x ∈ acc, x.1 < x.2 ∧ x.2 ≤ s.size) (hs : ∀ a, st = some a → a < pos) : ∀ x ∈ closeSpans s (acc, st), x.1 < x.2 ∧ x.2 ≤ s.size := by
  intro x hx
  cases st with
  | none => exact ha x hx
  | some a =>
    rcases List.mem_append.1 hx with h | h
    · exact ha x h
    · obtain rfl := List.mem_singleton.1 h
      have := hs a rfl
      exact ⟨by show a < s.size; omega, Nat.le_refl _⟩
theorem spansB_lt (s : ByteArray) : ∀ (n pos : Nat) (st : Option Nat) (acc : List (Nat × Nat)), pos ≤ s.size → (∀ x ∈ acc, x.1 < x.2 ∧ x.2 ≤ s.size) → (∀ a, st = some a → a < pos) →
    ∀ x ∈ closeSpans s (spansB s n pos st acc), x.1 < x.2 ∧ x.2 ≤ s.size
  | 0, pos, st, acc, hp, ha, hs => close_lt s acc st pos hp ha hs
  | n + 1, pos, st, acc, hp, ha, hs => by
    unfold spansB
    by_cases h : pos < s.size
    · rw [if_pos h]
      by_cases hb : isBl (s.get! pos).toNat = true
      · rw [if_pos hb]
        cases st with
        | none => exact spansB_lt s n (pos + 1) none acc (by omega) ha (fun a e => by cases e)
        | some a =>
          have := hs a rfl
          refine spansB_lt s n (pos + 1) none (acc ++ [(a, pos)]) (by omega) (fun x hx => ?_) (fun a e => by cases e)
          rcases List.mem_append.1 hx with h' | h'
          · exact ha x h'
          · obtain rfl := List.mem_singleton.1 h'
            exact ⟨this, by show pos ≤ s.size; omega⟩
      · rw [if_neg hb]
        refine spansB_lt s n (pos + 1) _ acc (by omega) ha (fun a e => ?_)
        cases st with
        | none => have e' : pos = a := Option.some.inj e; omega
        | some b => have e' : b = a := Option.some.inj e; have := hs b rfl; omega
    · rw [if_neg h]
      exact close_lt s acc st pos hp ha hs
theorem word_ne (s : ByteArray) : ∀ x ∈ goFieldsP isBl s, 0 < x.size ∧ x.size ≤ s.size := by
  intro x hx
  unfold goFieldsP spansOfP at hx
  rw [spans_bytes s s.size 0 none [] (by omega)] at hx
  obtain ⟨y, hy, rfl⟩ := List.mem_map.1 hx
  have := spansB_lt s (s.size - 0) 0 none [] (by omega) (fun x h => by cases h) (fun a e => by cases e) y hy
  rw [ByteArray.size_extract]
  omega
end Go.Proofs.YtlcablcpcbmgeaaGreatDoor.PureM
end

section
-- names: maptext_split.f maptext_lines.f strings_Split.f
namespace Go.Proofs.YtlcablcpcbmgeaaGreatDoor.PureM
open Go.RowKit Go.Lib Go.Proofs.YtlcablcpcbmgeaaGreatDoorW.PrintWords Go.Proofs.YtlcablcpcbmgeaaGreatDoorW.PrintLast Go.Proofs.YtlcablcpcbmgeaaGreatDoor.P Go.Proofs.YtlcablcpcbmgeaaGreatDoor.Reg
set_option linter.unusedVariables false
set_option linter.unusedSimpArgs false
def skipW (w : List ByteArray) : Bool := w.isEmpty || bt (rdOf ByteArray.empty w 0) 0 == 35
def linesL (acc : List (List ByteArray)) : List ByteArray → List (List ByteArray) × Bool
  | [] => (acc, true)
  | p :: ps => if skipW (goFieldsP isBl p) = true then linesL acc ps else if (goFieldsP isBl p).length = 3 then linesL (acc ++ [goFieldsP isBl p]) ps else ([], false)
theorem rdOf_at (l : List ByteArray) (i : Nat) (r : ByteArray) (t : List ByteArray) (h : l.drop i = r :: t) : rdOf ByteArray.empty l (i : Int) = r := by
  have h1 : l[i]? = some r := by
    have := List.getElem?_drop (xs := l) (i := i) (j := 0)
    rw [h] at this
    simpa using this.symm
  simp [rdOf, List.getD, h1]
theorem lines_loop (ps : List ByteArray) (hl : ps.length ≤ 100000) (hs : ∀ p ∈ ps, p.size ≤ 1000000) : ∀ (t : List ByteArray) (i : Nat) (acc : List (List ByteArray)), ps.drop i = t → acc.length ≤ i →
    Ev (fun k => maptext_lines.l0 k acc ps (ps.length : Int) (i : Int)) (linesL acc t)
  | [], i, acc, hd, ha => by
    have hi := drop_nil_ge hd
    refine ⟨1, fun k hk => ?_⟩
    obtain ⟨k, rfl⟩ : ∃ k', k = k' + 1 := ⟨k - 1, by omega⟩
    show maptext_lines.l0 (k + 1) acc ps (ps.length : Int) (i : Int) = some (acc, true)
    rw [maptext_lines.l0, if_neg (by omega)]
  | p :: t, i, acc, hd, ha => by
    have hi := drop_lt hd
    have hp : p.size ≤ 1000000 := hs p (List.mem_of_mem_drop (i := i) (by rw [hd]; exact List.mem_cons_self ..))
    have hrd := rdOf_at ps i p t hd
    have hsp : maptext_split.f p = some (goFieldsP isBl p) := if_pos hp
    have hw := word_ne p
    unfold linesL
    generalize goFieldsP isBl p = w at hsp hw
    have hst : ∀ k, maptext_lines.l0 (k + 1 + 1) acc ps (ps.length : Int) (i : Int) = maptext_lines.j1 (k + 1) acc w ps (ps.length : Int) (i : Int) (skipW w) := fun k => by
      rw [maptext_lines.l0, if_pos (by omega), if_pos (by omega), if_pos (by omega), hrd, hsp, Option.bind_some]
      cases w with
      | nil => rw [if_pos (show ((([] : List ByteArray).length : Nat) : Int) = 0 from rfl)]; rfl
      | cons a b =>
        have h0 : rdOf ByteArray.empty (a :: b) 0 = a := rfl
        have ha := (hw a (List.mem_cons_self ..)).1
        rw [if_neg (by simp only [List.length_cons]; omega), if_pos (by simp only [List.length_cons]; omega), h0, if_pos (by omega)]
        unfold skipW
        rw [h0]
        rfl
    have hws : wrap64 ((i : Int) + 1) = ((i + 1 : Nat) : Int) := by unfold wrap64; omega
    by_cases hk : skipW w = true
    · rw [if_pos hk]
      obtain ⟨K, hK⟩ := lines_loop ps hl hs t (i + 1) acc (drop_succ hd) (by omega)
      refine ⟨K + 2, fun k hk2 => ?_⟩
      obtain ⟨k, rfl⟩ : ∃ k', k = k' + 1 + 1 := ⟨k - 2, by omega⟩
      show maptext_lines.l0 (k + 1 + 1) acc ps (ps.length : Int) (i : Int) = some _
      rw [hst k, hk, maptext_lines.j1, if_pos rfl, hws]
      exact hK k (by omega)
    · rw [if_neg hk]
      rw [Bool.not_eq_true] at hk
      by_cases h3 : w.length = 3
      · rw [if_pos h3]
        obtain ⟨K, hK⟩ := lines_loop ps hl hs t (i + 1) (acc ++ [w]) (drop_succ hd) (by simp; omega)
        refine ⟨K + 2, fun k hk2 => ?_⟩
        obtain ⟨k, rfl⟩ : ∃ k', k = k' + 1 + 1 := ⟨k - 2, by omega⟩
        show maptext_lines.l0 (k + 1 + 1) acc ps (ps.length : Int) (i : Int) = some _
        rw [hst k, hk, maptext_lines.j1, if_neg (by simp), if_pos (by omega), if_pos (by omega), hws]
        exact hK k (by omega)
      · rw [if_neg h3]
        refine ⟨2, fun k hk2 => ?_⟩
        obtain ⟨k, rfl⟩ : ∃ k', k = k' + 1 + 1 := ⟨k - 2, by omega⟩
        show maptext_lines.l0 (k + 1 + 1) acc ps (ps.length : Int) (i : Int) = some _
        rw [hst k, hk, maptext_lines.j1, if_neg (by simp), if_neg (by omega)]
end Go.Proofs.YtlcablcpcbmgeaaGreatDoor.PureM
end

section
-- names: maptext_split.f
namespace Go.Proofs.YtlcablcpcbmgeaaGreatDoor.PureM
open Go.RowKit Go.Lib Go.Proofs.YtlcablcpcbmgeaaGreatDoorW.PrintWords Go.Proofs.YtlcablcpcbmgeaaGreatDoorW.PrintLast Go.Proofs.YtlcablcpcbmgeaaGreatDoor.P
set_option linter.unusedVariables false
set_option linter.unusedSimpArgs false
def ofL (l : List UInt8) : ByteArray := ⟨l.toArray⟩
def blB (c : UInt8) : Bool := isBl c.toNat
/-- The words of a line: cur is the word that has begun. -/
def fieldsL (cur : List UInt8) : List UInt8 → List (List UInt8)
  | [] => if cur = [] then [] else [cur]
  | c :: t => if blB c = true then (if cur = [] then fieldsL [] t else cur :: fieldsL [] t) else fieldsL (cur ++ [c]) t
theorem ofL_data (s : ByteArray) : ofL s.data.toList = s := by
  apply ByteArray.ext; apply Array.ext'; simp [ofL]
theorem data_ofL (l : List UInt8) : (ofL l).data.toList = l := by simp [ofL]
theorem ext_ofL (s : ByteArray) (a b : Nat) : s.extract a b = ofL ((s.data.toList.drop a).take (b - a)) := by
  rw [← extract_data, ofL_data]
def curO (l : List UInt8) (st : Option Nat) (i : Nat) : List UInt8 := match st with
  | none => []
  | some a => (l.drop a).take (i - a)
theorem spans_fields (s : ByteArray) : ∀ (n i : Nat) (st : Option Nat) (acc : List (Nat × Nat)), s.size - i = n → i ≤ s.size → (∀ a, st = some a → a < i) →
    exs s (closeSpans s (spansB s n i st acc)) = exs s acc ++ (fieldsL (curO s.data.toList st i) (s.data.toList.drop i)).map ofL
  | 0, i, st, acc, hn, hi, hs => by
    obtain rfl : i = s.size := by omega
    have hl : s.data.toList.length = s.size := Array.length_toList
    rw [List.drop_eq_nil_of_le (by omega)]
    cases st with
    | none => simp [spansB, closeSpans, curO, fieldsL]
    | some a =>
      have ha := hs a rfl
      have hne : ¬ curO s.data.toList (some a) s.size = [] := fun e => by
        have := congrArg List.length e
        simp only [curO, List.length_take, List.length_drop, List.length_nil] at this
        omega
      rw [fieldsL, if_neg hne]
      simp only [spansB, closeSpans, exs, List.map_append, List.map_cons, List.map_nil, curO]
      rw [ext_ofL]
  | n + 1, i, st, acc, hn, hi, hs => by
    have hl : s.data.toList.length = s.size := Array.length_toList
    have hlt : i < s.size := by omega
    have hd : s.data.toList.drop i = s.get! i :: s.data.toList.drop (i + 1) := by
      rw [List.drop_eq_getElem_cons (by omega)]
      congr 1
      show s.data.toList[i] = s.data[i]!
      rw [getElem!_pos s.data i hlt]; simp
    rw [hd]
    unfold spansB fieldsL
    rw [if_pos hlt]
    by_cases hb : isBl (s.get! i).toNat = true
    · rw [if_pos hb, if_pos (show blB (s.get! i) = true from hb)]
      cases st with
      | none =>
        rw [if_pos (show curO s.data.toList none i = [] from rfl)]
        exact spans_fields s n (i + 1) none acc (by omega) (by omega) (fun a e => by cases e)
      | some a =>
        have ha := hs a rfl
        have hne : ¬ curO s.data.toList (some a) i = [] := fun e => by
          have := congrArg List.length e
          simp only [curO, List.length_take, List.length_drop, List.length_nil] at this
          omega
        rw [if_neg hne]
        refine (spans_fields s n (i + 1) none (acc ++ [(a, i)]) (by omega) (by omega) (fun a e => by cases e)).trans ?_
        simp only [exs, List.map_append, List.map_cons, List.map_nil, curO, List.append_assoc, List.cons_append, List.nil_append]
        rw [ext_ofL]
    · rw [if_neg hb, if_neg (show ¬ blB (s.get! i) = true from hb)]
      refine (spans_fields s n (i + 1) (some (st.getD i)) acc (by omega) (by omega) (fun a e => ?_)).trans ?_
      · have e' : st.getD i = a := Option.some.inj e
        cases st with
        | none => have : i = a := e'; omega
        | some b => have : b = a := e'; have := hs b rfl; omega
      · congr 2
        congr 1
        cases st with
        | none =>
          show (s.data.toList.drop i).take (i + 1 - i) = [] ++ [s.get! i]
          rw [hd, show i + 1 - i = 0 + 1 by omega, List.take_succ_cons, List.take_zero]; rfl
        | some a =>
          have ha := hs a rfl
          show (s.data.toList.drop a).take (i + 1 - a) = (s.data.toList.drop a).take (i - a) ++ [s.get! i]
          rw [show i + 1 - a = (i - a) + 1 by omega, List.take_add_one, List.getElem?_drop, show a + (i - a) = i by omega]
          congr 1
          have : s.data.toList[i]? = some (s.get! i) := by
            have := List.getElem?_drop (xs := s.data.toList) (i := i) (j := 0)
            rw [hd] at this
            simpa using this.symm
          rw [this]; rfl
theorem fields_eq (s : ByteArray) : goFieldsP isBl s = (fieldsL [] s.data.toList).map ofL := by
  unfold goFieldsP spansOfP
  rw [spans_bytes s s.size 0 none [] (by omega)]
  exact spans_fields s (s.size - 0) 0 none [] rfl (by omega) (fun a e => by cases e)
/-- Words without blanks. -/
theorem fields_word : ∀ (w cur t : List UInt8), (∀ c ∈ w, blB c = false) → fieldsL cur (w ++ t) = fieldsL (cur ++ w) t
  | [], cur, t, _ => by simp
  | c :: w, cur, t, h => by
    rw [List.cons_append, fieldsL, if_neg (by rw [h c (List.mem_cons_self ..)]; simp), fields_word w _ t (fun x hx => h x (List.mem_cons_of_mem _ hx))]
    simp
theorem fields_blanks : ∀ (b t : List UInt8), (∀ c ∈ b, blB c = true) → fieldsL [] (b ++ t) = fieldsL [] t
  | [], _, _ => rfl
  | c :: b, t, h => by
    rw [List.cons_append, fieldsL, if_pos (h c (List.mem_cons_self ..)), if_pos rfl]
    exact fields_blanks b t (fun x hx => h x (List.mem_cons_of_mem _ hx))
theorem fields_end (w b t : List UInt8) (hw : w ≠ []) (hb : b ≠ []) (h : ∀ c ∈ b, blB c = true) : fieldsL w (b ++ t) = w :: fieldsL [] t := by
  cases b with
  | nil => exact absurd rfl hb
  | cons c b =>
    rw [List.cons_append, fieldsL, if_pos (h c (List.mem_cons_self ..)), if_neg hw]
    rw [fields_blanks b t (fun x hx => h x (List.mem_cons_of_mem _ hx))]
/-- A line of three words, with blanks. -/
theorem fields_three (b0 b1 b2 b3 u v w : List UInt8) (h0 : ∀ c ∈ b0, blB c = true) (h1 : ∀ c ∈ b1, blB c = true) (h2 : ∀ c ∈ b2, blB c = true) (h3 : ∀ c ∈ b3, blB c = true) (n1 : b1 ≠ []) (n2 : b2 ≠ [])
    (hu : ∀ c ∈ u, blB c = false) (hv : ∀ c ∈ v, blB c = false) (hw : ∀ c ∈ w, blB c = false) (nu : u ≠ []) (nv : v ≠ []) (nw : w ≠ []) :
    fieldsL [] (b0 ++ (u ++ (b1 ++ (v ++ (b2 ++ (w ++ b3)))))) = [u, v, w] := by
  rw [fields_blanks b0 _ h0, fields_word u [] _ hu, List.nil_append, fields_end u b1 _ nu n1 h1, fields_word v [] _ hv, List.nil_append, fields_end v b2 _ nv n2 h2, fields_word w [] _ hw, List.nil_append]
  cases b3 with
  | nil => rw [fieldsL, if_neg nw]
  | cons c b =>
    have := fields_end w (c :: b) [] nw (by simp) h3
    rw [List.append_nil] at this
    rw [this]; rfl
end Go.Proofs.YtlcablcpcbmgeaaGreatDoor.PureM
end

section
namespace Go.Proofs.YtlcablcpcbmgeaaGreatDoor.PureM
open Go.Lib Go.Proofs.YtlcablcpcbmgeaaGreatDoor.Num
set_option linter.unusedVariables false
set_option linter.unusedSimpArgs false
theorem up_big : ∀ d : Fin 16, 48 ≤ (upperB (hl d)).toNat := by decide +kernel
theorem upper_big : ∀ (u : Nat) (c : UInt8), c ∈ toUpperA (hexl u) → 48 ≤ c.toNat := by
  intro u
  induction u using Nat.strongRecOn with
  | _ u ih =>
    intro c hc
    obtain ⟨d, hd, rfl⟩ := List.mem_map.1 hc
    by_cases h : u < 16
    · rw [hexl_lt h] at hd
      obtain rfl := List.mem_singleton.1 hd
      exact up_big ⟨u, h⟩
    · rw [hexl_ge h] at hd
      rcases List.mem_append.1 hd with hd | hd
      · exact ih (u / 16) (by omega) _ (List.mem_map.2 ⟨d, hd, rfl⟩)
      · obtain rfl := List.mem_singleton.1 hd
        exact up_big ⟨u % 16, by omega⟩
theorem hexT_big (u : Nat) (c : UInt8) (h : c ∈ hexT u) : 48 ≤ c.toNat := by
  rw [hexT_eq] at h
  rcases List.mem_append.1 h with h | h
  · rcases List.mem_cons.1 h with rfl | h
    · decide
    · obtain rfl := List.mem_singleton.1 h; decide
  rcases List.mem_append.1 h with h | h
  · rw [List.eq_of_mem_replicate h]; decide
  · exact upper_big u c h
theorem dec_big (u : Nat) (c : UInt8) (h : c ∈ decDigits u) : 48 ≤ c.toNat := by
  have := dec_isD u c h
  unfold isD at this
  rw [Bool.and_eq_true, decide_eq_true_iff, decide_eq_true_iff] at this
  exact this.1
def getHexL (l : List UInt8) : Option Nat := if l.take 2 = [48, 120] then dgN 16 16 (l.drop 2) else none
def getDecL (l : List UInt8) : Option Nat := if 1 < l.length ∧ l.head? = some 48 then none else dgN 10 19 l
/-- A number of either form. -/
def placeL (l : List UInt8) : Option Nat := match getHexL l with
  | some n => some n
  | none => getDecL l
theorem place_hex (n : Nat) (h : n ≤ MX) : placeL (hexT n) = some n := by
  have e : getHexL (hexT n) = some n := by
    unfold getHexL
    rw [if_pos (by rw [hexT_eq]; rfl), dgN_hex n (by unfold MX at h; omega), if_pos h]
  unfold placeL; rw [e]
theorem getdec_dec (u : Nat) (h : u ≤ MX) : getDecL (decDigits u) = some u := by
  have hd := dgN_dec u (by unfold MX at h; omega)
  rw [if_pos h] at hd
  unfold getDecL
  rw [if_neg, hd]
  rintro ⟨h2, h3⟩
  by_cases hz : u = 0
  · subst hz; rw [dec_lt (by omega)] at h2; simp at h2
  · obtain ⟨c, r, hcr, hne⟩ := dec_head u (by omega)
    rw [hcr] at h3
    exact hne (Option.some.inj h3)
theorem place_dec (u : Nat) (h : u ≤ MX) : placeL (decDigits u) = some u := by
  have e : getHexL (decDigits u) = none := by
    unfold getHexL
    rw [if_neg]
    intro h2
    have : (120 : UInt8) ∈ decDigits u := List.mem_of_mem_take (i := 2) (by rw [h2]; simp)
    exact absurd (dec_isD u _ this) (by decide)
  unfold placeL; rw [e]; exact getdec_dec u h
theorem place_0x0 (n : Nat) (h : n ≤ 1099511627776) : placeL (48 :: 120 :: 48 :: (hexT n).drop 2) = some n := by
  have hl := hexl_len 10 n (by omega)
  have e1 : (hexT n).drop 2 = List.replicate (8 - (hexl n).length) 48 ++ toUpperA (hexl n) := by rw [hexT_eq]; rfl
  have e : getHexL (48 :: 120 :: 48 :: (hexT n).drop 2) = some n := by
    unfold getHexL
    rw [if_pos (by rfl)]
    show dgN 16 16 (48 :: (hexT n).drop 2) = some n
    have e2 : (48 : UInt8) :: (hexT n).drop 2 = List.replicate (8 - (hexl n).length + 1) 48 ++ toUpperA (hexl n) := by rw [e1, List.replicate_succ]; rfl
    rw [e2]
    unfold dgN Num.dg
    rw [if_neg (by rw [List.length_append, List.length_replicate, upper_len]; omega), if_neg (by rw [List.replicate_succ]; simp), nu_zeros 16 (by omega), nu_hex n]
    exact if_pos (show n ≤ 4611686018427387904 by omega)
  unfold placeL; rw [e]
end Go.Proofs.YtlcablcpcbmgeaaGreatDoor.PureM
end

section
namespace Go.Proofs.YtlcablcpcbmgeaaGreatDoor.PureM
open Go.RowKit Go.Lib Go.Proofs.YtlcablcpcbmgeaaGreatDoorW.PrintWords Go.Proofs.YtlcablcpcbmgeaaGreatDoorW.PrintLast Go.Proofs.YtlcablcpcbmgeaaGreatDoor.P Go.Proofs.YtlcablcpcbmgeaaGreatDoor.Num
set_option linter.unusedVariables false
set_option linter.unusedSimpArgs false
def wordsL (p : List UInt8) : List ByteArray := (fieldsL [] p).map ofL
/-- The lines of a text that are not passed by. -/
def linesW (l : List UInt8) : List (List ByteArray) := ((pieces 10 l).map wordsL).filter fun w => !skipW w
def piecesB (s : ByteArray) : List ByteArray := splitB ⟨#[10]⟩ 0 (countB s ⟨#[10]⟩) s
theorem lines_bytes (s : ByteArray) : ((piecesB s).map (goFieldsP isBl)).filter (fun w => !skipW w) = linesW s.data.toList := by
  unfold linesW
  rw [← PureN.split_pieces 10 s, List.map_map]
  congr 1
  exact List.map_congr_left fun p _ => fields_eq p
theorem linesW_nil : linesW [] = [] := rfl
theorem linesW_line (a r : List UInt8) (h : ∀ c ∈ a, c ≠ 10) : linesW (a ++ 10 :: r) = (if skipW (wordsL a) = true then [] else [wordsL a]) ++ linesW r := by
  unfold linesW
  rw [pieces_app 10 a r h, List.map_cons, List.filter_cons]
  cases skipW (wordsL a) <;> simp
theorem linesW_last (a : List UInt8) (h : ∀ c ∈ a, c ≠ 10) : linesW a = if skipW (wordsL a) = true then [] else [wordsL a] := by
  unfold linesW
  rw [pieces_none 10 a h, List.map_cons, List.filter_cons]
  cases skipW (wordsL a) <;> simp
def wdOk (u : List UInt8) : Prop := u ≠ [] ∧ ∀ c ∈ u, 36 ≤ c.toNat
def blOk (b : List UInt8) : Prop := ∀ c ∈ b, blB c = true
theorem wd_bl {u : List UInt8} (h : wdOk u) : ∀ c ∈ u, blB c = false := fun c hc => by
  have := h.2 c hc
  unfold blB isBl
  rw [beq_eq_false_iff_ne.mpr (show c.toNat ≠ 32 by omega), beq_eq_false_iff_ne.mpr (show c.toNat ≠ 9 by omega)]; rfl
theorem bl_10 {b : List UInt8} (h : blOk b) : ∀ c ∈ b, c ≠ 10 := fun c hc e => by
  have := h c hc
  rw [e] at this
  exact absurd this (by decide)
theorem wd_10 {u : List UInt8} (h : wdOk u) : ∀ c ∈ u, c ≠ 10 := fun c hc e => by
  have := h.2 c hc
  rw [e] at this
  exact absurd this (by decide)
theorem app_10 {a b : List UInt8} (ha : ∀ c ∈ a, c ≠ 10) (hb : ∀ c ∈ b, c ≠ 10) : ∀ c ∈ a ++ b, c ≠ 10 := fun c hc => (List.mem_append.1 hc).elim (ha c) (hb c)
theorem skip_word {u : List UInt8} (h : wdOk u) (t : List ByteArray) : skipW (ofL u :: t) = false := by
  cases u with
  | nil => exact absurd rfl h.1
  | cons c u =>
    have hc := h.2 c (List.mem_cons_self ..)
    have e : bt (rdOf ByteArray.empty (ofL (c :: u) :: t) 0) 0 = (c.toNat : Int) := rfl
    unfold skipW
    rw [e, beq_eq_false_iff_ne.mpr (show (c.toNat : Int) ≠ 35 by omega)]; rfl
theorem line_words (b0 b1 b2 b3 u v w : List UInt8) (h0 : blOk b0) (h1 : blOk b1) (h2 : blOk b2) (h3 : blOk b3) (n1 : b1 ≠ []) (n2 : b2 ≠ []) (hu : wdOk u) (hv : wdOk v) (hw : wdOk w) :
    wordsL (b0 ++ (u ++ (b1 ++ (v ++ (b2 ++ (w ++ b3)))))) = [ofL u, ofL v, ofL w] ∧ (∀ c ∈ b0 ++ (u ++ (b1 ++ (v ++ (b2 ++ (w ++ b3))))), c ≠ 10) ∧ skipW (wordsL (b0 ++ (u ++ (b1 ++ (v ++ (b2 ++ (w ++ b3))))))) = false := by
  have e : wordsL (b0 ++ (u ++ (b1 ++ (v ++ (b2 ++ (w ++ b3)))))) = [ofL u, ofL v, ofL w] := by
    unfold wordsL
    rw [fields_three b0 b1 b2 b3 u v w h0 h1 h2 h3 n1 n2 (wd_bl hu) (wd_bl hv) (wd_bl hw) hu.1 hv.1 hw.1]
    rfl
  refine ⟨e, app_10 (bl_10 h0) (app_10 (wd_10 hu) (app_10 (bl_10 h1) (app_10 (wd_10 hv) (app_10 (bl_10 h2) (app_10 (wd_10 hw) (bl_10 h3)))))), ?_⟩
  rw [e]; exact skip_word hu _
/-- A line of three words ahead of others. -/
theorem linesW_three (b0 b1 b2 b3 u v w r : List UInt8) (h0 : blOk b0) (h1 : blOk b1) (h2 : blOk b2) (h3 : blOk b3) (n1 : b1 ≠ []) (n2 : b2 ≠ []) (hu : wdOk u) (hv : wdOk v) (hw : wdOk w) :
    linesW (b0 ++ (u ++ (b1 ++ (v ++ (b2 ++ (w ++ b3))))) ++ 10 :: r) = [ofL u, ofL v, ofL w] :: linesW r := by
  obtain ⟨e1, e2, e3⟩ := line_words b0 b1 b2 b3 u v w h0 h1 h2 h3 n1 n2 hu hv hw
  rw [linesW_line _ r e2, e3, e1]; rfl
theorem linesW_three_last (b0 b1 b2 b3 u v w : List UInt8) (h0 : blOk b0) (h1 : blOk b1) (h2 : blOk b2) (h3 : blOk b3) (n1 : b1 ≠ []) (n2 : b2 ≠ []) (hu : wdOk u) (hv : wdOk v) (hw : wdOk w) :
    linesW (b0 ++ (u ++ (b1 ++ (v ++ (b2 ++ (w ++ b3)))))) = [[ofL u, ofL v, ofL w]] := by
  obtain ⟨e1, e2, e3⟩ := line_words b0 b1 b2 b3 u v w h0 h1 h2 h3 n1 n2 hu hv hw
  rw [linesW_last _ e2, e3, e1]; rfl
end Go.Proofs.YtlcablcpcbmgeaaGreatDoor.PureM
end

section
namespace Go.Proofs.YtlcablcpcbmgeaaGreatDoor.PureM
open Go.RowKit Go.Lib Go.Proofs.YtlcablcpcbmgeaaGreatDoorW.PrintWords Go.Proofs.YtlcablcpcbmgeaaGreatDoorW.PrintLast Go.Proofs.YtlcablcpcbmgeaaGreatDoor.P Go.Proofs.YtlcablcpcbmgeaaGreatDoor.Num Go.Proofs.YtlcablcpcbmgeaaGreatDoor.Reg
set_option linter.unusedVariables false
set_option linter.unusedSimpArgs false
def rdW (w : List ByteArray) (i : Int) : ByteArray := rdOf ByteArray.empty w i
def placeA (s : ByteArray) : Option Nat := placeL s.data.toList
def decW (s : ByteArray) : Option Nat := getDecL s.data.toList
def stP (s : ByteArray) : Option Int := if s.size = 1 then if isS (bt s 0) = true then some (bt s 0) else none else none
def badR : Int × Int × Int × List S23 × Int := (0, 0, 0, [], 6)
/-- One line of a region. -/
def regS (out : List S23) (w : List ByteArray) : Option (List S23) := (placeA (rdW w 0)).bind fun p => (placeA (rdW w 1)).bind fun n => (stP (rdW w 2)).bind fun st =>
  if (p : Int) = endOf 0 out then if 1 ≤ (n : Int) then if (n : Int) ≤ 1099511627776 - (p : Int) then some (addP out (endOf 0 out) n st) else none else none else none
def regL (out : List S23) : List (List ByteArray) → Option (List S23)
  | [] => some out
  | w :: t => (regS out w).bind fun o => regL o t
def headW (w : List ByteArray) : Option (Int × Int × Int) := (placeA (rdW w 0)).bind fun p => (stP (rdW w 1)).bind fun st => (decW (rdW w 2)).bind fun n => some ((p : Int), (n : Int), st)
def mapL : List (List ByteArray) → Option (Int × Int × Int × List S23)
  | [] => none
  | h :: t => (headW h).bind fun a => (regL [] t).bind fun l => if mayMap a.1 a.2.1 a.2.2 l = true then some (a.1, a.2.1, a.2.2, l) else none
def resL (ls : List (List ByteArray)) : Int × Int × Int × List S23 × Int :=
  if ls.all (fun w => decide (w.length = 3)) = true then (match mapL ls with
    | some a => (a.1, a.2.1, a.2.2.1, a.2.2.2, 0)
    | none => badR) else badR
/-! read again -/
theorem addP_new {out : List S23} {r : S23} {t : List S23} (h : mayL 0 none (out ++ r :: t) = true) : addP out (endOf 0 out) r.f1 r.f2 = out ++ [r] ∧ r.f0 = endOf 0 out ∧ 1 ≤ r.f1 ∧ r.f1 ≤ 1099511627776 - r.f0 := by
  rw [mayL_append, Bool.and_eq_true] at h
  obtain ⟨e0, e1, e2, e3, e4, e5⟩ := mayL_cons h.2
  refine ⟨?_, e0, e1, by omega⟩
  have er : (⟨endOf 0 out, r.f1, r.f2⟩ : S23) = r := by rw [← e0]
  rcases snoc_cases out with rfl | ⟨a, q, rfl⟩
  · rw [addP_nil, if_neg (by omega), er]; rfl
  · have hq : q.f2 ≠ r.f2 := fun e => e4 (by rw [lastSt_append, ← e]; rfl)
    rw [addP_snoc, if_neg (by omega), if_neg hq, er]
def rowW (r : S23) (x : List ByteArray) : Prop := placeA (rdW x 0) = some r.f0.toNat ∧ placeA (rdW x 1) = some r.f1.toNat ∧ stP (rdW x 2) = some r.f2
theorem regS_row {out : List S23} {r : S23} {t : List S23} {x : List ByteArray} (hx : rowW r x) (h : mayL 0 none (out ++ r :: t) = true) (h0 : 0 ≤ endOf 0 out) : regS out x = some (out ++ [r]) := by
  obtain ⟨a0, a1, a2, a3⟩ := addP_new h
  unfold regS
  rw [hx.1, hx.2.1, hx.2.2, Option.bind_some, Option.bind_some, Option.bind_some, if_pos (by omega), if_pos (by omega), if_pos (by omega), Int.toNat_of_nonneg (by omega), a0]
def Rows : List S23 → List (List ByteArray) → Prop
  | [], [] => True
  | r :: t, x :: xs => rowW r x ∧ Rows t xs
  | _, _ => False
theorem end_nn {l t : List S23} (h : mayL 0 none (l ++ t) = true) : 0 ≤ endOf 0 l := by
  rw [mayL_append, Bool.and_eq_true] at h
  have := (mayL_end h.1 (by omega)).1
  omega
theorem regL_back : ∀ (t : List S23) (xs : List (List ByteArray)) (out : List S23), Rows t xs → mayL 0 none (out ++ t) = true → regL out xs = some (out ++ t)
  | [], [], out, _, h => by rw [List.append_nil]; rfl
  | r :: t, x :: xs, out, hr, h => by
    rw [regL, regS_row hr.1 h (end_nn h), Option.bind_some, regL_back t xs (out ++ [r]) hr.2 (by rw [List.append_assoc]; exact h), List.append_assoc]; rfl
theorem mapL_back {pos pass st : Int} {l : List S23} {x : List ByteArray} {xs : List (List ByteArray)} (hm : mayMap pos pass st l = true) (hx : placeA (rdW x 0) = some pos.toNat ∧ stP (rdW x 1) = some st ∧ decW (rdW x 2) = some pass.toNat) (hr : regL [] xs = some l) (h0 : 0 ≤ pos) (h1 : 0 ≤ pass) : mapL (x :: xs) = some (pos, pass, st, l) := by
  rw [mapL]
  unfold headW
  rw [hx.1, hx.2.1, hx.2.2, hr]
  simp only [Option.bind_some]
  rw [Int.toNat_of_nonneg h0, Int.toNat_of_nonneg h1, if_pos hm]
end Go.Proofs.YtlcablcpcbmgeaaGreatDoor.PureM
end

section
namespace Go.Proofs.YtlcablcpcbmgeaaGreatDoor.PureM
open Go.RowKit Go.Lib Go.Proofs.YtlcablcpcbmgeaaGreatDoorW.PrintWords Go.Proofs.YtlcablcpcbmgeaaGreatDoorW.PrintLast Go.Proofs.YtlcablcpcbmgeaaGreatDoor.P Go.Proofs.YtlcablcpcbmgeaaGreatDoor.Num Go.Proofs.YtlcablcpcbmgeaaGreatDoor.Reg
set_option linter.unusedVariables false
set_option linter.unusedSimpArgs false
theorem wd_hex (u : Nat) : wdOk (hexT u) := ⟨fun e => by have := hexT_len u; rw [e] at this; simp at this, fun c hc => by have := hexT_big u c hc; omega⟩
theorem wd_dec (u : Nat) : wdOk (decDigits u) := ⟨fun e => by have := dec_pos u; rw [e] at this; simp at this, fun c hc => by have := dec_big u c hc; omega⟩
theorem st_byte {s : Int} (h : isS s = true) : wdOk [UInt8.ofNat s.toNat] ∧ stP (ofL [UInt8.ofNat s.toNat]) = some s := by
  have e : s = 63 ∨ s = 42 ∨ s = 47 ∨ s = 45 ∨ s = 43 := isS_ok h
  unfold wdOk
  rcases e with rfl | rfl | rfl | rfl | rfl <;> exact ⟨⟨by simp, by intro c hc; obtain rfl := List.mem_singleton.1 hc; decide⟩, by decide +kernel⟩
theorem bl_sp : blOk [32] := fun c hc => by obtain rfl := List.mem_singleton.1 hc; decide
theorem bl_nil : blOk [] := fun c hc => by cases hc
theorem itoa_nn {n : Int} (h : 0 ≤ n) : itoa n = decDigits n.toNat := by unfold itoa; rw [if_neg (by omega)]
/-- A line of three words, one blank between. -/
theorem linesW_row {u v w : List UInt8} (hu : wdOk u) (hv : wdOk v) (hw : wdOk w) (r : List UInt8) : linesW (u ++ [32] ++ v ++ [32] ++ w ++ [10] ++ r) = [ofL u, ofL v, ofL w] :: linesW r := by
  have h := linesW_three [] [32] [32] [] u v w r bl_nil bl_sp bl_sp bl_nil (by simp) (by simp) hu hv hw
  simpa [List.append_assoc] using h
theorem mayL_all : ∀ (l : List S23) (e : Int) (p : Option Int), mayL e p l = true → 0 ≤ e → e ≤ 1099511627776 → ∀ r ∈ l, 0 ≤ r.f0 ∧ r.f0 ≤ 1099511627776 ∧ 1 ≤ r.f1 ∧ r.f1 ≤ 1099511627776 ∧ isS r.f2 = true
  | [], _, _, _, _, _ => fun r h => by cases h
  | q :: l, e, p, h, h0, h1 => by
    obtain ⟨e0, e1, e2, e3, _, e5⟩ := mayL_cons h
    intro r hr
    rcases List.mem_cons.1 hr with rfl | hr
    · exact ⟨by omega, by omega, e1, by omega, e3⟩
    · exact mayL_all l _ _ e5 (by omega) (by omega) r hr
theorem place_ofHex (n : Int) (h0 : 0 ≤ n) (h1 : n ≤ 1099511627776) : placeA (ofL (hexT n.toNat)) = some n.toNat := by
  unfold placeA; rw [data_ofL]; exact place_hex _ (by unfold MX; omega)
end Go.Proofs.YtlcablcpcbmgeaaGreatDoor.PureM
end

section
-- names: maptext_lines.f strings_Split.f maptext_place.f maptext_status.f maptext_regions.f num_GetDec.f num_GetHex.f region_End.f region_Push.f region_Is.f maptext_Parse.f
namespace Go.Proofs.YtlcablcpcbmgeaaGreatDoor.PureM
open Go.RowKit Go.Lib Go.Proofs.YtlcablcpcbmgeaaGreatDoorW.PrintWords Go.Proofs.YtlcablcpcbmgeaaGreatDoorW.PrintLast Go.Proofs.YtlcablcpcbmgeaaGreatDoor.P Go.Proofs.YtlcablcpcbmgeaaGreatDoor.Num Go.Proofs.YtlcablcpcbmgeaaGreatDoor.Reg Go.Proofs.YtlcablcpcbmgeaaGreatDoor.PureN
set_option linter.unusedVariables false
set_option linter.unusedSimpArgs false
theorem getHexP (s : ByteArray) (hs : s.size ≤ 100000) : num_GetHex.f s = some (val (getHexL s.data.toList)) := getHex_f s hs
theorem getDecP (s : ByteArray) (hs : s.size ≤ 100000) : num_GetDec.f s = some (val (decW s)) := by
  rw [getDec_f s hs]
  unfold decW getDecL
  rw [data_len]
theorem placeP (s : ByteArray) (hs : s.size ≤ 100000) : maptext_place.f s = some (val (placeA s)) := by
  unfold maptext_place.f
  rw [getHexP s hs, getDecP s hs]
  unfold placeA placeL
  cases getHexL s.data.toList with
  | some n => rfl
  | none =>
    rw [Option.bind_some, if_neg (by simp [val]), Option.bind_some]
    rfl
theorem statusP (s : ByteArray) (h : 0 < s.size) : maptext_status.f s = some (bt s 0, (stP s).isSome) := by
  unfold maptext_status.f stP
  rw [if_pos (by omega)]
  by_cases c : s.size = 1
  · rw [if_pos (by omega), if_pos c, is_eq]
    cases isS (bt s 0) <;> rfl
  · rw [if_neg (by omega), if_neg c]; rfl
theorem stP_some {s : ByteArray} {x : Int} (h : stP s = some x) : x = bt s 0 ∧ isS x = true ∧ s.size = 1 := by
  unfold stP at h
  split at h
  · next h1 =>
    split at h
    · next h2 => cases h; exact ⟨rfl, h2, h1⟩
    · cases h
  · cases h
/-- Three words, none empty. -/
def threeW (w : List ByteArray) : Prop := w.length = 3 ∧ ∀ x ∈ w, 0 < x.size ∧ x.size ≤ 100000
theorem rdW_mem {w : List ByteArray} (i : Nat) (h : i < w.length) : rdW w i ∈ w := by
  unfold rdW rdOf
  rw [Int.toNat_natCast, List.getD_eq_getElem?_getD, List.getElem?_eq_getElem h]
  exact List.getElem_mem h
theorem three_at {w : List ByteArray} (h : threeW w) : (0 < (rdW w 0).size ∧ (rdW w 0).size ≤ 100000) ∧ (0 < (rdW w 1).size ∧ (rdW w 1).size ≤ 100000) ∧ (0 < (rdW w 2).size ∧ (rdW w 2).size ≤ 100000) :=
  ⟨h.2 _ (rdW_mem 0 (by rw [h.1]; omega)), h.2 _ (rdW_mem 1 (by rw [h.1]; omega)), h.2 _ (rdW_mem 2 (by rw [h.1]; omega))⟩
theorem rdLL_at (l : List (List ByteArray)) (i : Nat) (r : List ByteArray) (t : List (List ByteArray)) (h : l.drop i = r :: t) : rd_L6 l (i : Int) = r := by
  have h1 : l[i]? = some r := by
    have := List.getElem?_drop (xs := l) (i := i) (j := 0)
    rw [h] at this
    simpa using this.symm
  simp [rd_L6, List.getD, h1]
theorem valS (n : Nat) : val (some n) = ((n : Int), true) := rfl
theorem valN : val none = (0, false) := rfl
def okR : Option (List S23) → List S23 × Bool
  | some o => (o, true)
  | none => ([], false)
theorem regS_may {out o : List S23} {w : List ByteArray} (h : regS out w = some o) (hm : mayL 0 none out = true) : mayL 0 none o = true ∧ o.length ≤ out.length + 1 := by
  unfold regS at h
  obtain ⟨p, h1, h⟩ := Option.bind_eq_some_iff.1 h
  obtain ⟨n, h2, h⟩ := Option.bind_eq_some_iff.1 h
  obtain ⟨st, h3, h⟩ := Option.bind_eq_some_iff.1 h
  by_cases c1 : (p : Int) = endOf 0 out
  · rw [if_pos c1] at h
    by_cases c2 : 1 ≤ (n : Int)
    · rw [if_pos c2] at h
      by_cases c3 : (n : Int) ≤ 1099511627776 - (p : Int)
      · rw [if_pos c3] at h
        cases h
        exact ⟨(addP_may hm rfl (fun _ => (stP_some h3).2.1) (by omega)).1, addP_len _ _ _ _⟩
      · rw [if_neg c3] at h; cases h
    · rw [if_neg c2] at h; cases h
  · rw [if_neg c1] at h; cases h
theorem regL_may : ∀ (t : List (List ByteArray)) (out l : List S23), regL out t = some l → mayL 0 none out = true → mayL 0 none l = true ∧ l.length ≤ out.length + t.length
  | [], out, l, h, hm => by cases h; exact ⟨hm, Nat.le_refl _⟩
  | w :: t, out, l, h, hm => by
    rw [regL] at h
    obtain ⟨o, h1, h2⟩ := Option.bind_eq_some_iff.1 h
    obtain ⟨m1, m2⟩ := regS_may h1 hm
    obtain ⟨m3, m4⟩ := regL_may t o l h2 m1
    exact ⟨m3, by rw [List.length_cons]; omega⟩
theorem regions_loop (ls : List (List ByteArray)) (hl : ls.length ≤ 100000) (hw : ∀ w ∈ ls, threeW w) : ∀ (t : List (List ByteArray)) (i : Nat) (out : List S23), ls.drop i = t → mayL 0 none out = true → out.length ≤ i →
    Ev (fun k => maptext_regions.l0 k out ls (ls.length : Int) (i : Int)) (okR (regL out t))
  | [], i, out, hd, hm, ho => by
    have hi := drop_nil_ge hd
    refine ⟨1, fun k hk => ?_⟩
    obtain ⟨k, rfl⟩ : ∃ k', k = k' + 1 := ⟨k - 1, by omega⟩
    show maptext_regions.l0 (k + 1) out ls (ls.length : Int) (i : Int) = some (out, true)
    rw [maptext_regions.l0, if_neg (by omega)]
  | w :: t, i, out, hd, hm, ho => by
    have hi := drop_lt hd
    have hwt := hw w (List.mem_of_mem_drop (i := i) (by rw [hd]; exact List.mem_cons_self ..))
    obtain ⟨⟨a0, a1⟩, ⟨b0, b1⟩, ⟨c0, c1⟩⟩ := three_at hwt
    have hrd := rdLL_at ls i w t hd
    have hst : ∀ k, maptext_regions.l0 (k + 1) out ls (ls.length : Int) (i : Int) = (if (val (placeA (rdW w 0))).2 = true then (if (val (placeA (rdW w 1))).2 = true then (if (stP (rdW w 2)).isSome = true then ((region_End.f k out).bind fun e => (if (val (placeA (rdW w 0))).1 = e then (if (val (placeA (rdW w 1))).1 < 1 then (some (([] : List (S23)), false)) else (if (val (placeA (rdW w 1))).1 > (wrap64 (1099511627776 - (val (placeA (rdW w 0))).1)) then (some (([] : List (S23)), false)) else ((region_Push.f out (val (placeA (rdW w 1))).1 (bt (rdW w 2) 0)).bind fun o => (maptext_regions.l0 k o ls (ls.length : Int) ((i + 1 : Nat) : Int))))) else (some (([] : List (S23)), false)))) else (some (([] : List (S23)), false))) else (some (([] : List (S23)), false))) else (some (([] : List (S23)), false))) := fun k => by
      have hws : wrap64 ((i : Int) + 1) = ((i + 1 : Nat) : Int) := by unfold wrap64; omega
      rw [maptext_regions.l0, if_pos (by omega), if_pos (by omega), if_pos (by omega), hrd, hws]
      rw [show maptext_place.f (rdOf ByteArray.empty w 0) = _ from placeP (rdW w 0) a1, show maptext_place.f (rdOf ByteArray.empty w 1) = _ from placeP (rdW w 1) b1, show maptext_status.f (rdOf ByteArray.empty w 2) = _ from statusP (rdW w 2) c0]
      simp only [Option.bind_some, if_pos (show 0 < (w.length : Int) by rw [hwt.1]; omega), if_pos (show 1 < (w.length : Int) by rw [hwt.1]; omega), if_pos (show 2 < (w.length : Int) by rw [hwt.1]; omega)]
    rw [regL]
    refine Ev.step hst ?_
    have hbad : ∀ o : Option (List S23), o = none → okR (o.bind fun o => regL o t) = ([], false) := fun o e => by rw [e]; rfl
    cases hp : placeA (rdW w 0) with
    | none =>
      rw [hbad _ (by unfold regS; rw [hp]; rfl)]
      simp only [val, if_neg (show ¬ false = true by simp)]
      exact Ev.now _
    | some p =>
      cases hn : placeA (rdW w 1) with
      | none =>
        rw [hbad _ (by unfold regS; rw [hp, hn]; rfl)]
        simp only [val, if_true, if_neg (show ¬ false = true by simp)]
        exact Ev.now _
      | some n =>
        cases hs : stP (rdW w 2) with
        | none =>
          rw [hbad _ (by unfold regS; rw [hp, hn, hs]; rfl)]
          simp only [val, if_true, Option.isSome_none, if_neg (show ¬ false = true by simp)]
          exact Ev.now _
        | some st =>
          rw [valS p, valS n]
          simp only [if_true, Option.isSome_some]
          have he := end_ev out (by omega)
          simp only [if_pos hm] at he
          refine Ev.bind he ?_
          have hE := (mayL_end hm (by omega)).2
          have hS : regS out w = if (p : Int) = endOf 0 out then if 1 ≤ (n : Int) then if (n : Int) ≤ 1099511627776 - (p : Int) then some (addP out (endOf 0 out) n st) else none else none else none := by unfold regS; rw [hp, hn, hs]; rfl
          by_cases d1 : (p : Int) = endOf 0 out
          · rw [if_pos d1] at hS
            have hwr : wrap64 (1099511627776 - (p : Int)) = 1099511627776 - (p : Int) := wrap_in (by omega) (by omega)
            simp only [if_pos d1, hwr]
            by_cases d2 : (n : Int) < 1
            · rw [if_neg (by omega)] at hS
              rw [hbad _ hS]
              simp only [if_pos d2]
              exact Ev.now _
            · simp only [if_neg d2]
              rw [if_pos (by omega)] at hS
              by_cases d3 : (n : Int) > 1099511627776 - (p : Int)
              · rw [if_neg (by omega)] at hS
                rw [hbad _ hS]
                simp only [if_pos d3]
                exact Ev.now _
              · simp only [if_neg d3]
                rw [if_pos (by omega)] at hS
                have hst2 := (stP_some hs).1
                rw [← hst2, push_eq hm (n : Int) st (by omega), hS]
                simp only [Option.bind_some]
                obtain ⟨m1, m2⟩ := regS_may hS hm
                exact regions_loop ls hl hw t (i + 1) _ (drop_succ hd) m1 (by omega)
          · rw [if_neg d1] at hS
            rw [hbad _ hS]
            simp only [if_neg d1]
            exact Ev.now _
/-- The lines as a filter. -/
theorem linesL_eq : ∀ (t : List ByteArray) (acc : List (List ByteArray)), linesL acc t = if ((t.map (goFieldsP isBl)).filter fun w => !skipW w).all (fun w => decide (w.length = 3)) = true then (acc ++ (t.map (goFieldsP isBl)).filter fun w => !skipW w, true) else ([], false)
  | [], acc => by simp [linesL]
  | p :: t, acc => by
    rw [linesL, List.map_cons, List.filter_cons]
    by_cases h : skipW (goFieldsP isBl p) = true
    · rw [if_pos h, linesL_eq t acc, h]; rfl
    · simp only [if_neg h, show (!skipW (goFieldsP isBl p)) = true by simpa using h, if_true, List.all_cons]
      by_cases h3 : (goFieldsP isBl p).length = 3
      · rw [if_pos h3, linesL_eq t, decide_eq_true h3, Bool.true_and, List.append_assoc]; rfl
      · rw [if_neg h3, decide_eq_false h3, Bool.false_and, if_neg (by simp)]
theorem pieces_ok (s : ByteArray) : (piecesB s).length ≤ s.size + 1 ∧ ∀ p ∈ piecesB s, p.size ≤ s.size := by
  obtain ⟨h1, h2⟩ := pieces_size 10 s.data.toList
  have h := split_pieces 10 s
  rw [← h] at h1 h2
  rw [data_len] at h1 h2
  rw [List.length_map] at h2
  exact ⟨h2, fun p hp => by have := h1 _ (List.mem_map.2 ⟨p, hp, rfl⟩); rw [data_len] at this; exact this⟩
theorem lines_ev (s : ByteArray) (hs : s.size ≤ 40000) : Ev (fun k => maptext_lines.f k s) (if (linesW s.data.toList).all (fun w => decide (w.length = 3)) = true then (linesW s.data.toList, true) else ([], false)) := by
  obtain ⟨h1, h2⟩ := pieces_ok s
  have hsp : strings_Split.f s (⟨#[10]⟩ : ByteArray) = some (piecesB s) := by
    unfold strings_Split.f piecesB
    exact if_pos ⟨by omega, by decide⟩
  have hl := lines_loop (piecesB s) (by omega) (fun p hp => by have := h2 p hp; omega) (piecesB s) 0 [] rfl (Nat.le_refl _)
  rw [linesL_eq, lines_bytes, List.nil_append] at hl
  have e : ∀ k, maptext_lines.f k s = maptext_lines.l0 k [] (piecesB s) ((piecesB s).length : Int) ((0 : Nat) : Int) := fun k => by
    unfold maptext_lines.f; rw [hsp, Option.bind_some]; rfl
  exact Ev.congr e hl
theorem lines_three (s : ByteArray) (hs : s.size ≤ 40000) : ∀ w ∈ linesW s.data.toList, w ≠ [] ∧ ∀ x ∈ w, 0 < x.size ∧ x.size ≤ 100000 := by
  intro w hw
  rw [← lines_bytes] at hw
  obtain ⟨h1, h2⟩ := List.mem_filter.1 hw
  obtain ⟨p, hp, rfl⟩ := List.mem_map.1 h1
  have hps := (pieces_ok s).2 p hp
  refine ⟨fun e => ?_, fun x hx => ?_⟩
  · rw [e] at h2; exact absurd h2 (by decide)
  · have := word_ne p x hx
    exact ⟨this.1, by omega⟩
theorem linesW_len (s : ByteArray) : (linesW s.data.toList).length ≤ s.size + 1 := by
  rw [← lines_bytes]
  refine Nat.le_trans (List.length_filter_le ..) ?_
  rw [List.length_map]; exact (pieces_ok s).1
/-- What the program answers. -/
theorem parse_ev (s : ByteArray) (hs : s.size ≤ 40000) : Ev (fun k => maptext_Parse.f k s) (resL (linesW s.data.toList)) := by
  show Ev (fun k => parseMF k s) _
  unfold parseMF
  simp only [if_neg (show ¬ 40000 < s.size by omega)]
  refine Ev.bind (lines_ev s hs) ?_
  have hne := lines_three s hs
  have hlen := linesW_len s
  unfold resL
  generalize linesW s.data.toList = ls at hne hlen
  by_cases hall : ls.all (fun w => decide (w.length = 3)) = true
  · simp only [if_pos hall]
    have hw : ∀ w ∈ ls, threeW w := fun w hw => ⟨of_decide_eq_true (List.all_eq_true.1 hall w hw), (hne w hw).2⟩
    cases ls with
    | nil => simp only [if_true]; exact Ev.now _
    | cons h t =>
      simp only [if_true, if_neg (show ¬ (h :: t) = [] by simp)]
      have h3 := hw h (List.mem_cons_self ..)
      obtain ⟨⟨a0, a1⟩, ⟨b0, b1⟩, ⟨c0, c1⟩⟩ := three_at h3
      have hrd : rd_L6 (h :: t) 0 = h := rfl
      unfold headF
      rw [hrd]
      simp only [if_pos (show 3 ≤ h.length by rw [h3.1]; omega)]
      rw [show maptext_place.f (rdOf ByteArray.empty h 0) = _ from placeP (rdW h 0) a1, show maptext_status.f (rdOf ByteArray.empty h 1) = _ from statusP (rdW h 1) b0, show num_GetDec.f (rdOf ByteArray.empty h 2) = _ from getDecP (rdW h 2) c1]
      simp only [Option.bind_some, List.drop_succ_cons, List.drop_zero]
      have hr := regions_loop t (by simp only [List.length_cons] at hlen; omega) (fun w hw' => hw w (List.mem_cons_of_mem _ hw')) t 0 [] rfl rfl (Nat.le_refl _)
      refine Ev.bind (show Ev (fun k => maptext_regions.f k t) _ from hr) ?_
      have hM : mapL (h :: t) = (headW h).bind fun a => (regL [] t).bind fun l => if mayMap a.1 a.2.1 a.2.2 l = true then some (a.1, a.2.1, a.2.2, l) else none := rfl
      unfold headW at hM
      cases hp : placeA (rdW h 0) with
      | none =>
        rw [hp] at hM
        rw [show mapL (h :: t) = none from hM, valN]
        simp only [if_neg (show ¬ false = true by simp)]
        exact Ev.now _
      | some p =>
        rw [hp] at hM
        cases hs1 : stP (rdW h 1) with
        | none =>
          rw [hs1] at hM
          rw [show mapL (h :: t) = none from hM, valS]
          simp only [if_true, Option.isSome_none, if_neg (show ¬ false = true by simp)]
          exact Ev.now _
        | some st =>
          rw [hs1] at hM
          cases hd : decW (rdW h 2) with
          | none =>
            rw [hd] at hM
            rw [show mapL (h :: t) = none from hM, valS, valN]
            simp only [if_true, Option.isSome_some, if_neg (show ¬ false = true by simp)]
            exact Ev.now _
          | some n =>
            rw [hd] at hM
            have hst2 := (stP_some hs1).1
            cases hg : regL [] t with
            | none =>
              rw [hg] at hM
              rw [show mapL (h :: t) = none from hM, valS, valS, show okR none = ([], false) from rfl]
              simp only [if_true, Option.isSome_some, if_neg (show ¬ false = true by simp)]
              exact Ev.now _
            | some l =>
              rw [hg] at hM
              simp only [Option.bind_some] at hM
              rw [hM, valS, valS, show okR (some l) = (l, true) from rfl]
              simp only [if_true, Option.isSome_some]
              rw [← hst2]
              have hll := (regL_may t [] l hg rfl).2
              simp only [List.length_cons, List.length_nil] at hlen hll
              refine Ev.bind (mayMap_ev p n st l (by omega)) ?_
              cases hmm : mayMap (p : Int) (n : Int) st l with
              | true => simp only [if_true]; exact Ev.now _
              | false => simp only [if_neg (show ¬ false = true by simp)]; exact Ev.now _
  · simp only [if_neg hall, if_neg (show ¬ false = true by simp)]; exact Ev.now _
end Go.Proofs.YtlcablcpcbmgeaaGreatDoor.PureM
end
