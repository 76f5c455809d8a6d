/- A map of bad sectors alone: what is tried next, and what it is behind the try. No conditions beyond those that the lemmas name. -/
import Derived.Test.YtnoilinjlelpaaaPx0
import Derived.Test.YtnoilinjlelpaaaPx8
import Derived.Test.YtnoilinjlelpaaaPlanE
namespace Go.Proofs.Ytnoilinjlelpaaa.Reg
set_option linter.unusedSimpArgs false
set_option linter.unusedVariables false
open Go.RowKit Go.Proofs.YtnoilinjlelpaaaW.PrintWords Go.Proofs.YtnoilinjlelpaaaW.PrintLast Go.Proofs.YtnoilinjlelpaaaW.PrintMore Go.Proofs.Ytnoilinjlelpaaa.P

theorem seek_one (b : Bool) (n st x : Int) : seekD b [⟨0, n, 45⟩] st x = if b = true then (if 45 = st ∧ 0 < x then (0, mn n (wrap64 (x - 0)), st, true) else (0, 0, 0, false)) else (if 45 = st ∧ x < 0 + n then (mx 0 x, 0 + n - mx 0 x, st, true) else (0, 0, 0, false)) := by
  unfold seekD
  cases b with
  | true => simp [region_Last.g, rd_T33]
  | false => simp [firstL]
theorem one_may {n : Int} (h0 : 1 ≤ n) (h1 : n ≤ 255) : mayL 0 none [⟨0, n, 45⟩] = true := mayL_mk rfl h0 (by show n ≤ 1099511627776 - 0; omega) rfl (by simp) rfl
theorem one_st (n y : Int) : stAt 0 [⟨0, n, 45⟩] y = if 0 ≤ y ∧ y < n then some 45 else none := by
  simp only [stAt]
  by_cases c : y < 0
  · rw [if_pos c, if_neg (by omega)]
  · rw [if_neg c]
    by_cases d : y < 0 + n
    · rw [if_pos d, if_pos (by omega)]
    · rw [if_neg d, if_neg (by omega)]
theorem next_one (r : Int) (b : Bool) (p q n : Int) : nextD 1 r b p q [⟨0, n, 45⟩] = retryD r b p q [⟨0, n, 45⟩] := by
  have h : ∀ kind st more R, st ≠ 45 → hitD b [⟨0, n, 45⟩] kind st more R = R := by
    intro kind st more R hst
    unfold hitD
    rw [seek_one, if_neg]
    cases b with
    | true => rw [if_pos rfl, if_neg (fun h => hst h.1.symm)]; decide
    | false => rw [if_neg (by decide), if_neg (fun h => hst h.1.symm)]; decide
  unfold nextD
  rw [h _ _ _ _ (by decide), h _ _ _ _ (by decide), h _ _ _ _ (by decide)]
theorem after_one {n : Int} (h0 : 1 ≤ n) (h1 : n ≤ 255) {x y : Int} (fr : Bool) (hx : 0 ≤ x) (hy : 1 ≤ y) (_hxy : x + y ≤ n) : afterL [⟨0, n, 45⟩] (4, x, y, fr) 0 = [⟨0, n, 45⟩] := by
  have hl := one_may h0 h1
  have e : mn (mx 0 0) y = 0 := by unfold mn mx; simp; omega
  unfold afterL doneD
  simp only [e]
  rw [if_neg (by decide), if_neg (by decide), if_neg (by omega), if_neg (by decide)]
  obtain ⟨a1, a2, a3, a4⟩ := set_may hl (pos := x) (n := y) (st := 45) hx (by omega) rfl
  refine canon _ _ 0 none (by omega) a2 hl a3 (fun z => ?_)
  rw [a4 z, one_st]
  by_cases c : 0 ≤ z ∧ z < n
  · rw [if_pos c]; simp only [Option.map_some]; split <;> rfl
  · rw [if_neg c]; rfl

/-- The state before try j of pass t. -/
def Inv (b : Bool) (n sec t j P Q : Int) : Prop :=
  (0 < j ∧ Q = t ∧ P = if b = true then 8 * (sec - j) else 8 * j) ∨ (j = 0 ∧ t = 0 ∧ Q = 0 ∧ P = if b = true then n else 0) ∨ (j = 0 ∧ 0 < t ∧ Q = t - 1 ∧ P = if b = true then 0 else n)
theorem seek_f {n x : Int} (h0 : 0 ≤ x) (h1 : x < n) : seekD false [⟨0, n, 45⟩] 45 x = (x, n - x, 45, true) := by
  rw [seek_one, if_neg (by decide), if_pos ⟨rfl, by omega⟩]
  have e : mx 0 x = x := by unfold mx; split <;> omega
  rw [e, show 0 + n - x = n - x by omega]
theorem seek_fn {n x : Int} (h1 : n ≤ x) : seekD false [⟨0, n, 45⟩] 45 x = (0, 0, 0, false) := by
  rw [seek_one, if_neg (by decide), if_neg (by omega)]
theorem seek_b {n x : Int} (h0 : 0 < x) (h1 : x ≤ n) (h2 : n ≤ 255) : seekD true [⟨0, n, 45⟩] 45 x = (0, x, 45, true) := by
  rw [seek_one, if_pos rfl, if_pos ⟨rfl, by omega⟩, wrap_in (by omega) (by omega)]
  have e : mn n (x - 0) = x := by unfold mn; split <;> omega
  rw [e]
theorem seek_bn {n x : Int} (h1 : x ≤ 0) : seekD true [⟨0, n, 45⟩] 45 x = (0, 0, 0, false) := by
  rw [seek_one, if_pos rfl, if_neg (by omega)]
theorem cut_f {x n : Int} (k : Int) (hk : x = 8 * k) (_h0 : 0 ≤ k) : cutD false x (n - x) 0 = (k * 8, mn 8 (n - k * 8)) := by
  unfold cutD
  rw [if_neg (by decide)]
  refine Prod.ext (by simp only; omega) ?_
  unfold mn
  simp only
  repeat' split
  all_goals omega
theorem cut_b {x n : Int} (k : Int) (_h0 : 0 ≤ k) (h1 : k * 8 < x) (h2 : x ≤ k * 8 + 8) (h3 : x = n ∨ x = k * 8 + 8 ∧ x ≤ n) : cutD true 0 x 0 = (k * 8, mn 8 (n - k * 8)) := by
  have e : mx 0 ((0 + x - 1) / 8 * 8 - 0 * 8) = k * 8 := by unfold mx; split <;> omega
  unfold cutD
  rw [if_pos rfl, e]
  refine Prod.ext rfl ?_
  unfold mn
  simp only
  split <;> omega
theorem edge_one (b : Bool) (n : Int) : edgeD b [⟨0, n, 45⟩] = if b = true then n else 0 := by
  unfold edgeD endOf endOf
  rw [show (0 : Int) + n = n by omega]
theorem try_one {n sec r t j P Q : Int} {b : Bool} (h0 : 1 ≤ n) (h1 : n ≤ 255) (hs : sec = (n + 7) / 8) (hj : 0 ≤ j ∧ j < sec) (ht : 0 ≤ t ∧ t < r) (hI : Inv b n sec t j P Q) :
    ∃ fr, nextD 1 r b P Q [⟨0, n, 45⟩] = (4, (if b = true then sec - 1 - j else j) * 8, mn 8 (n - (if b = true then sec - 1 - j else j) * 8), fr) ∧ (if fr = true then Q + 1 else Q) = t ∧ (fr = true → Q + 1 < r) := by
  rw [next_one]
  unfold retryD
  rcases hI with ⟨i1, i2, i3⟩ | ⟨i1, i2, i3, i4⟩ | ⟨i1, i2, i3, i4⟩
  · refine ⟨false, ?_, by rw [if_neg (by decide), i2], fun h => by cases h⟩
    rw [if_neg (by omega)]
    cases b with
    | true =>
      rw [if_pos rfl] at i3
      rw [seek_b (x := P) (by omega) (by omega) h1, if_pos rfl]
      dsimp only
      rw [cut_b (n := n) (sec - 1 - j) (by omega) (by omega) (by omega) (by omega)]
      rfl
    | false =>
      rw [if_neg (by decide)] at i3
      rw [seek_f (x := P) (by omega) (by omega), if_pos rfl]
      dsimp only
      rw [cut_f j (by omega) (by omega)]
      rfl
  · refine ⟨false, ?_, by rw [if_neg (by decide), i3, i2], fun h => by cases h⟩
    rw [if_neg (by omega)]
    cases b with
    | true =>
      rw [if_pos rfl] at i4
      rw [seek_b (x := P) (by omega) (by omega) h1, if_pos rfl]
      dsimp only
      rw [cut_b (n := n) (sec - 1 - j) (by omega) (by omega) (by omega) (by omega)]
      rfl
    | false =>
      rw [if_neg (by decide)] at i4
      rw [seek_f (x := P) (by omega) (by omega), if_pos rfl]
      dsimp only
      rw [cut_f j (by omega) (by omega)]
      rfl
  · refine ⟨true, ?_, by rw [if_pos rfl, i3]; omega, fun _ => by omega⟩
    rw [if_neg (by omega), edge_one]
    cases b with
    | true =>
      rw [if_pos rfl] at i4
      rw [seek_bn (x := P) (by omega), if_neg (by decide), if_pos (by omega), if_pos rfl, seek_b (x := n) (by omega) (by omega) h1, if_pos rfl]
      dsimp only
      rw [cut_b (n := n) (sec - 1 - j) (by omega) (by omega) (by omega) (by omega)]
      rfl
    | false =>
      rw [if_neg (by decide)] at i4
      rw [seek_fn (x := P) (by omega), if_neg (by decide), if_pos (by omega), show (if false = true then n else 0) = 0 from rfl, seek_f (x := 0) (by omega) (by omega), if_pos rfl]
      dsimp only
      rw [cut_f j (by omega) (by omega)]
      rfl
/-- Behind the last pass nothing is next. -/
theorem end_one {n sec r P Q : Int} {b : Bool} (_hr : 0 ≤ r) (hI : Inv b n sec r 0 P Q) : nextD 1 r b P Q [⟨0, n, 45⟩] = (0, 0, 0, false) := by
  rw [next_one]
  unfold retryD
  rcases hI with ⟨i1, i2, i3⟩ | ⟨i1, i2, i3, i4⟩ | ⟨i1, i2, i3, i4⟩
  · omega
  · rw [if_pos (by omega)]
  · rw [if_neg (by omega)]
    cases b with
    | true =>
      rw [if_pos rfl] at i4
      rw [seek_bn (x := P) (by omega), if_neg (by decide), if_neg (by omega)]
    | false =>
      rw [if_neg (by decide)] at i4
      rw [seek_fn (x := P) (by omega), if_neg (by decide), if_neg (by omega)]
end Go.Proofs.Ytnoilinjlelpaaa.Reg
