/- What a map is behind an act, place by place; counts of places. No conditions beyond those that the lemmas name. -/
import Derived.Test.YtnoilinjlelpaaaPx0
import Derived.Test.YtnoilinjlelpaaaPlanE
namespace Go.Proofs.Ytnoilinjlelpaaa.Reg
set_option linter.unusedSimpArgs false
set_option linter.unusedVariables false
open Go.RowKit Go.Proofs.YtnoilinjlelpaaaW.PrintWords Go.Proofs.YtnoilinjlelpaaaW.PrintLast Go.Proofs.YtnoilinjlelpaaaW.PrintMore Go.Proofs.Ytnoilinjlelpaaa.P

theorem atL_lt {x : Int} : ∀ {l : List S33} {e : Int} {p : Option Int}, mayL e p l = true → e ≤ 1099511627776 → x < e → atL x l = (0, 0, 0, false) := by
  intro l
  induction l with
  | nil => intro e p _ _ _; rfl
  | cons r t ih =>
    intro e p h he hx
    obtain ⟨g1, g2, g3, g4, g5, g6⟩ := mayL_cons h
    rw [atL, if_neg (by omega)]
    exact ih g6 (by omega) (by omega)
theorem atL_reg {x a b s : Int} : ∀ {l : List S33} {e : Int} {p : Option Int}, mayL e p l = true → e ≤ 1099511627776 → atL x l = (a, b, s, true) → e ≤ a ∧ 1 ≤ b ∧ ∀ z, a ≤ z → z < a + b → stAt e l z = some s := by
  intro l
  induction l with
  | nil => intro e p _ _ h; simp [atL] at h
  | cons r t ih =>
    intro e p h he hx
    obtain ⟨g1, g2, g3, g4, g5, g6⟩ := mayL_cons h
    rw [atL] at hx
    by_cases c : x ≥ r.f0 ∧ x < r.f0 + r.f1
    · rw [if_pos c] at hx
      simp only [Prod.mk.injEq] at hx
      obtain ⟨rfl, rfl, rfl, -⟩ := hx
      refine ⟨by omega, g2, fun z h0 h1 => ?_⟩
      simp only [stAt]
      rw [if_neg (by omega), if_pos (by omega)]
    · rw [if_neg c] at hx
      obtain ⟨i1, i2, i3⟩ := ih g6 (by omega) hx
      refine ⟨by omega, i2, fun z h0 h1 => ?_⟩
      simp only [stAt]
      rw [if_neg (by omega), if_neg (by omega)]
      exact i3 z h0 h1
theorem atL_all {l : List S33} (h : mayL 0 none l = true) (x : Int) :
    (∃ a b s, atL x l = (a, b, s, true) ∧ stAt 0 l x = some s ∧ a ≤ x ∧ x < a + b) ∨ (atL x l = (0, 0, 0, false) ∧ stAt 0 l x = none) := by
  by_cases c0 : x < 0
  · exact .inr ⟨atL_lt h (by omega) c0, stAt_out h x (.inl c0)⟩
  · by_cases c1 : x < endOf 0 l
    · exact .inl (atL_st h (by omega) x (by omega) c1)
    · exact .inr ⟨atL_no h (by omega) x (by omega), stAt_out h x (.inr (by omega))⟩
/-- A place's status behind an act. -/
def newS (kind x y got ra rb z s : Int) : Int :=
  if x ≤ z ∧ z < x + y then (if kind = 1 then (if z < x + got then 43 else 42) else if got = y then 43 else 45)
  else if kind = 2 ∧ got ≠ y ∧ ra ≤ z ∧ z < ra + rb then 47 else s
theorem done_st {l : List S33} (hl : mayL 0 none l = true) (kind x y got : Int) (hx : 0 ≤ x) (hy : 1 ≤ y) (hxy : x + y ≤ endOf 0 l) (hg : 0 ≤ got ∧ got ≤ y) :
    ∀ z, stAt 0 (doneD l kind x y got) z = (stAt 0 l z).map (newS kind x y got (atL x l).1 (atL x l).2.1 z) := by
  have hlen := mayL_end hl (by omega)
  intro z
  have fin : ∀ (o : Option Int) (f g : Int → Int), (∀ s, f s = g s) → o.map f = o.map g := fun o f g h => by cases o <;> simp [h]
  unfold doneD
  by_cases k1 : kind = 1
  · rw [if_pos k1]
    obtain ⟨a1, a2, a3, a4⟩ := set_may hl (pos := x) (n := got) (st := 43) hx hg.1 rfl
    obtain ⟨b1, b2, b3, b4⟩ := set_may a2 (pos := x + got) (n := y - got) (st := 42) (by omega) (by omega) rfl
    rw [b4 z, a4 z, Option.map_map]
    refine fin _ _ _ (fun s => ?_)
    simp only [Function.comp, newS, k1, if_true]
    by_cases c1 : x ≤ z ∧ z < x + y
    · rw [if_pos c1]
      by_cases c2 : z < x + got
      · rw [if_neg (by omega), if_pos (by omega), if_pos c2]
      · rw [if_pos (by omega), if_neg c2]
    · rw [if_neg (by omega), if_neg (by omega), if_neg c1, if_neg (by omega)]
  · rw [if_neg k1]
    by_cases g1 : got = y
    · rw [if_pos g1]
      obtain ⟨a1, a2, a3, a4⟩ := set_may hl (pos := x) (n := y) (st := 43) hx (by omega) rfl
      rw [a4 z]
      refine fin _ _ _ (fun s => ?_)
      simp only [newS, k1, g1, if_true, if_false]
      by_cases c1 : x ≤ z ∧ z < x + y
      · rw [if_pos c1, if_pos c1]
      · rw [if_neg c1, if_neg c1, if_neg (by omega)]
    · rw [if_neg g1]
      by_cases k2 : kind = 2
      · rw [if_pos k2]
        obtain ⟨ra, rb, rs, q1, q2, q3, q4⟩ := atL_st hl (by omega) x hx (by omega)
        obtain ⟨h0, h1, -⟩ := atL_reg hl (by omega) q1
        rw [q1]
        obtain ⟨a1, a2, a3, a4⟩ := set_may hl (pos := ra) (n := rb) (st := 47) h0 (by omega) rfl
        obtain ⟨b1, b2, b3, b4⟩ := set_may a2 (pos := x) (n := y) (st := 45) hx (by omega) rfl
        rw [b4 z, a4 z, Option.map_map]
        refine fin _ _ _ (fun s => ?_)
        simp only [Function.comp, newS, k2, g1, if_false]
        by_cases c1 : x ≤ z ∧ z < x + y
        · rw [if_pos c1, if_pos c1, if_neg (by omega)]
        · rw [if_neg c1, if_neg c1]
          by_cases c2 : ra ≤ z ∧ z < ra + rb
          · rw [if_pos c2, if_pos (by simp [c2, g1])]
          · rw [if_neg c2, if_neg (by omega)]
      · rw [if_neg k2]
        obtain ⟨a1, a2, a3, a4⟩ := set_may hl (pos := x) (n := y) (st := 45) hx (by omega) rfl
        rw [a4 z]
        refine fin _ _ _ (fun s => ?_)
        simp only [newS, k1, k2, g1, if_false, false_and]

/-! Counts of places. -/
/-- Of n places from a on, how many have status v. -/
def cnt (f : Int → Option Int) (v a : Int) : Nat → Int
  | 0 => 0
  | n + 1 => cnt f v a n + if f (a + n) = some v then 1 else 0
theorem cnt_add (f : Int → Option Int) (v a : Int) (n m : Nat) : cnt f v a (n + m) = cnt f v a n + cnt f v (a + n) m := by
  induction m with
  | zero => simp [cnt]
  | succ m ih =>
    rw [← Nat.add_assoc, cnt, cnt, ih, show a + ((n + m : Nat) : Int) = a + (n : Int) + (m : Int) by omega]
    omega
theorem cnt_congr (f g : Int → Option Int) (v a : Int) (n : Nat) (h : ∀ z, a ≤ z → z < a + n → (f z = some v ↔ g z = some v)) : cnt f v a n = cnt g v a n := by
  induction n with
  | zero => rfl
  | succ n ih =>
    rw [cnt, cnt, ih (fun z h0 h1 => h z h0 (by omega))]
    have := h (a + n) (by omega) (by omega)
    by_cases c : f (a + n) = some v
    · rw [if_pos c, if_pos (this.1 c)]
    · rw [if_neg c, if_neg (fun e => c (this.2 e))]
theorem cnt_all_ (f : Int → Option Int) (v a : Int) (n : Nat) (h : ∀ z, a ≤ z → z < a + n → f z = some v) : cnt f v a n = n := by
  induction n with
  | zero => rfl
  | succ n ih => rw [cnt, ih (fun z h0 h1 => h z h0 (by omega)), if_pos (h _ (by omega) (by omega))]; omega
theorem cnt_none (f : Int → Option Int) (v a : Int) (n : Nat) (h : ∀ z, a ≤ z → z < a + n → f z ≠ some v) : cnt f v a n = 0 := by
  induction n with
  | zero => rfl
  | succ n ih => rw [cnt, ih (fun z h0 h1 => h z h0 (by omega)), if_neg (h _ (by omega) (by omega))]; omega
theorem cntL_cnt (v : Int) : ∀ (l : List S33) (e : Int) (p : Option Int) (n : Int), mayL e p l = true → 0 ≤ e → e ≤ 1099511627776 → 0 ≤ n → n ≤ e →
    cntL [v] n l = n + cnt (stAt e l) v e (endOf e l - e).toNat := by
  intro l
  induction l with
  | nil => intro e p n _ _ _ _ _; simp [cntL, endOf, cnt]
  | cons r t ih =>
    intro e p n hm h0 he hn0 hne
    obtain ⟨g1, g2, g3, g4, g5, g6⟩ := mayL_cons hm
    have hge := mayL_end g6 (by omega)
    have hE : endOf e (r :: t) = endOf (e + r.f1) t := rfl
    have hsp : (endOf e (r :: t) - e).toNat = r.f1.toNat + (endOf (e + r.f1) t - (e + r.f1)).toNat := by rw [hE]; omega
    rw [hsp, cnt_add, show e + ((r.f1.toNat : Nat) : Int) = e + r.f1 by omega]
    have c2 : cnt (stAt e (r :: t)) v (e + r.f1) (endOf (e + r.f1) t - (e + r.f1)).toNat = cnt (stAt (e + r.f1) t) v (e + r.f1) (endOf (e + r.f1) t - (e + r.f1)).toNat := by
      refine cnt_congr _ _ _ _ _ (fun z z0 z1 => ?_)
      simp only [stAt]
      rw [if_neg (by omega), if_neg (by omega)]
    rw [c2]
    have hst : ∀ z, e ≤ z → z < e + ((r.f1.toNat : Nat) : Int) → stAt e (r :: t) z = some r.f2 := by
      intro z z0 z1
      simp only [stAt]
      rw [if_neg (by omega), if_pos (by omega)]
    by_cases c : r.f2 = v
    · have e1 := cnt_all_ (stAt e (r :: t)) v e r.f1.toNat (fun z z0 z1 => by rw [hst z z0 z1, c])
      rw [cntL, if_pos (.inr (by simp [c])), wrap_in (x := n + r.f1) (by omega) (by omega), ih _ _ _ g6 (by omega) (by omega) (by omega) (by omega), e1]
      omega
    · have e1 := cnt_none (stAt e (r :: t)) v e r.f1.toNat (fun z z0 z1 => by rw [hst z z0 z1]; simpa using c)
      rw [cntL, if_neg (by simp [c]), ih _ _ _ g6 (by omega) (by omega) (by omega) (by omega), e1]
      omega
theorem count_places {l : List S33} (hl : mayL 0 none l = true) (v : Int) : cntL [v] 0 l = cnt (stAt 0 l) v 0 (endOf 0 l).toNat := by
  rw [cntL_cnt v l 0 none 0 hl (by omega) (by omega) (by omega) (by omega)]
  simp
/-- A stretch of places comes to have the status. -/
theorem cnt_more {f g : Int → Option Int} {v E x n : Int} (hx : 0 ≤ x) (hn : 0 ≤ n) (hxn : x + n ≤ E) (h1 : ∀ z, 0 ≤ z → z < E → ¬ (x ≤ z ∧ z < x + n) → (f z = some v ↔ g z = some v)) (h2 : ∀ z, x ≤ z → z < x + n → f z ≠ some v) (h3 : ∀ z, x ≤ z → z < x + n → g z = some v) :
    cnt g v 0 E.toNat = cnt f v 0 E.toNat + n := by
  have hE : E.toNat = (x.toNat + n.toNat) + (E - x - n).toNat := by omega
  rw [hE, cnt_add, cnt_add, cnt_add, cnt_add]
  have a1 := cnt_congr f g v 0 x.toNat (fun z z0 z1 => h1 z z0 (by omega) (by omega))
  have a2 := cnt_none f v (0 + (x.toNat : Int)) n.toNat (fun z z0 z1 => h2 z (by omega) (by omega))
  have a3 := cnt_all_ g v (0 + (x.toNat : Int)) n.toNat (fun z z0 z1 => h3 z (by omega) (by omega))
  have a4 := cnt_congr f g v (0 + ((x.toNat + n.toNat : Nat) : Int)) (E - x - n).toNat (fun z z0 z1 => h1 z (by omega) (by omega) (by omega))
  rw [a1, a2, a3, a4]
  omega
end Go.Proofs.Ytnoilinjlelpaaa.Reg
