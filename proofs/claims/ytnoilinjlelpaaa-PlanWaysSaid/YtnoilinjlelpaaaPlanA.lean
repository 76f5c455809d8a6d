/- What the plan's functions answer of a map that may be, in plain words. No conditions beyond those that the lemmas name. -/
import Derived.Test.YtnoilinjlelpaaaPx0
import Derived.Test.YtnoilinjlelpaaaPx7
import Derived.Test.YtnoilinjlelpaaaPx8
import Derived.Test.YtnoilinjlelpaaaPx9
import Derived.Test.YtnoilinjlelpaaaRegA
import Derived.Test.YtnoilinjlelpaaaRegD
import Derived.Test.YtnoilinjlelpaaaRegJ
namespace Go.Proofs.Ytnoilinjlelpaaa.Reg
open Go.RowKit Go.Proofs.YtnoilinjlelpaaaW.PrintWords Go.Proofs.YtnoilinjlelpaaaW.PrintLast Go.Proofs.YtnoilinjlelpaaaW.PrintMore Go.Proofs.Ytnoilinjlelpaaa.P

theorem ev_ite {α : Type} {c : Prop} [Decidable c] {f g : Nat → Option α} {v : α} (h1 : c → Ev f v) (h2 : ¬ c → Ev g v) : Ev (fun k => if c then f k else g k) v := by
  by_cases h : c
  · simp only [h, if_true]; exact h1 h
  · simp only [h, if_false]; exact h2 h

def edgeD (b : Bool) (l : List S33) : Int := if b = true then endOf 0 l else 0
def seekD (b : Bool) (l : List S33) (st x : Int) : Int × Int × Int × Bool := if b = true then region_Last.g l st x l.length else firstL st x l
theorem edge_ev {l : List S33} (hl : mayL 0 none l = true) (c r : Int) (b : Bool) (p q s : Int) : Ev (fun k => plan_edge.f k c r b p q s l) (edgeD b l) := by
  have hlen := mayL_end hl (by omega)
  have he := end_ev l (by omega)
  rw [if_pos hl] at he
  unfold plan_edge.f edgeD
  refine ev_ite (fun h => ?_) (fun h => ?_)
  · rw [if_pos h]; exact Ev.bind he (Ev.now _)
  · rw [if_neg h]; exact Ev.now _
theorem seek_ev {l : List S33} (hl : mayL 0 none l = true) (c r : Int) (b : Bool) (p q s st x : Int) (hx : -9223372036854775808 ≤ x) : Ev (fun k => plan_seek.f k c r b p q s l st x) (seekD b l st x) := by
  have hlen := mayL_end hl (by omega)
  have hf := first_ev l (by omega) st x hx
  have hg := last_ev l (by omega) st x
  rw [if_pos hl] at hf hg
  unfold plan_seek.f seekD
  refine ev_ite (fun h => ?_) (fun h => ?_)
  · rw [if_pos h]; exact Ev.bind hg (Ev.now _)
  · rw [if_neg h]; exact Ev.bind hf (Ev.now _)
/-- What a cut is: place and size. -/
def cutD (b : Bool) (p n more : Int) : Int × Int :=
  if b = true then (mx p ((p + n - 1) / 8 * 8 - more * 8), p + n - mx p ((p + n - 1) / 8 * 8 - more * 8)) else (p, mn n ((p / 8 + 1 + more) * 8 - p))
theorem cut_eq (c r : Int) (b : Bool) (p n s more : Int) (hp : 0 ≤ p) (hn : 0 < n) (hpn : p + n ≤ 1099511627776) (hm : 0 ≤ more) (hm2 : more ≤ 1000000) : plan_cut.f c r b p n s more = some (cutD b p n more) := by
  unfold plan_cut.f cutD
  have h1 : wrap64 (p + n) = p + n := wrap_in (by omega) (by omega)
  have h2 : wrap64 (p + n - 1) = p + n - 1 := wrap_in (by omega) (by omega)
  have h3 : Int.tdiv (p + n - 1) 8 = (p + n - 1) / 8 := Int.tdiv_eq_ediv_of_nonneg (by omega)
  have h4 : Int.tdiv p 8 = p / 8 := Int.tdiv_eq_ediv_of_nonneg (by omega)
  have h5 : wrap64 ((p + n - 1) / 8) = (p + n - 1) / 8 := wrap_in (by omega) (by omega)
  have h6 : wrap64 ((p + n - 1) / 8 * 8) = (p + n - 1) / 8 * 8 := wrap_in (by omega) (by omega)
  have h7 : wrap64 (more * 8) = more * 8 := wrap_in (by omega) (by omega)
  have h8 : wrap64 ((p + n - 1) / 8 * 8 - more * 8) = (p + n - 1) / 8 * 8 - more * 8 := wrap_in (by omega) (by omega)
  have h9 : wrap64 (p / 8) = p / 8 := wrap_in (by omega) (by omega)
  have h10 : wrap64 (p / 8 + 1) = p / 8 + 1 := wrap_in (by omega) (by omega)
  have h11 : wrap64 (p / 8 + 1 + more) = p / 8 + 1 + more := wrap_in (by omega) (by omega)
  have h12 : wrap64 ((p / 8 + 1 + more) * 8) = (p / 8 + 1 + more) * 8 := wrap_in (by omega) (by omega)
  have h13 : wrap64 ((p / 8 + 1 + more) * 8 - p) = (p / 8 + 1 + more) * 8 - p := wrap_in (by omega) (by omega)
  have hmx := mx_ge p ((p + n - 1) / 8 * 8 - more * 8)
  by_cases h : b = true
  · rw [if_pos h, if_pos h, h1, h2, h3, h5, h6, h7, h8]
    rw [wrap_in (x := p + n - mx p ((p + n - 1) / 8 * 8 - more * 8)) (by omega) (by omega)]
  · rw [if_neg h, if_neg h, h4, h9, h10, h11, h12, h13]
/-- What is found lies in the map. -/
theorem seek_st {l : List S33} (hl : mayL 0 none l = true) (b : Bool) (st x : Int) (hx : x ≤ 9223372036854775807) :
    (∃ p n, seekD b l st x = (p, n, st, true) ∧ 0 ≤ p ∧ 0 < n ∧ p + n ≤ 1099511627776 ∧ (∀ y, p ≤ y → y < p + n → stAt 0 l y = some st) ∧
      (b = true → p + n ≤ x ∧ ∀ y, y < x → stAt 0 l y = some st → y < p + n) ∧ (b = false → x ≤ p ∧ ∀ y, x ≤ y → stAt 0 l y = some st → p ≤ y)) ∨
    (seekD b l st x = (0, 0, 0, false) ∧ (b = true → ∀ y, y < x → stAt 0 l y ≠ some st) ∧ (b = false → ∀ y, x ≤ y → stAt 0 l y ≠ some st)) := by
  unfold seekD
  by_cases h : b = true
  · rw [if_pos h]
    rcases last_st hl st x hx with ⟨p, n, q1, q2, q3, q4, q5, q6, q7⟩ | ⟨q1, q2⟩
    · exact .inl ⟨p, n, q1, q2, q3, q5, q6, fun _ => ⟨q4, q7⟩, fun h2 => by rw [h] at h2; cases h2⟩
    · exact .inr ⟨q1, fun _ => q2, fun h2 => by rw [h] at h2; cases h2⟩
  · rw [if_neg h]
    rcases firstL_st hl (by omega) st x with ⟨p, n, q1, q2, q3, q4, q5, q6, q7⟩ | ⟨q1, q2⟩
    · exact .inl ⟨p, n, q1, q3, q4, q5, q6, fun h2 => absurd h2 h, fun _ => ⟨q2, q7⟩⟩
    · exact .inr ⟨q1, fun h2 => absurd h2 h, fun _ => q2⟩
end Go.Proofs.Ytnoilinjlelpaaa.Reg
