/- Plain laws of numbers' texts, of seat 2's. No program in sight. No conditions beyond those that the lemmas name. -/
import Derived.Test.YtbmhfnncagncmaaDoorPx0
import Derived.Test.YtbmhfnncagncmaaDoorPx23
import Derived.Test.YtbmhfnncagncmaaDoorNumL
import Derived.Lib.ItoaNum
namespace Go.Proofs.YtbmhfnncagncmaaDoor.PureN
open Go.RowKit Go.Proofs.YtbmhfnncagncmaaDoorW.PrintWords Go.Proofs.YtbmhfnncagncmaaDoorW.PrintLast Go.Proofs.YtbmhfnncagncmaaDoor.P Go.Proofs.YtbmhfnncagncmaaDoor.Num
-- names: salvorref1_digits.f salvorref1_Dec.f salvorref1_Hex.f
set_option linter.unusedVariables false
set_option linter.unusedSimpArgs false
def bl (l : List UInt8) : ByteArray := ⟨l.toArray⟩
theorem bl_append (a b : List UInt8) : bl a ++ bl b = bl (a ++ b) := by
  unfold bl
  apply ByteArray.ext
  simp
theorem bl_size (l : List UInt8) : (bl l).size = l.length := by simp [bl, ByteArray.size]
theorem bl_data (s : ByteArray) : bl s.data.toList = s := by unfold bl; simp
theorem bl_inj {a b : List UInt8} (h : bl a = bl b) : a = b := by
  have := congrArg (fun s : ByteArray => s.data.toList) h
  simpa [bl] using this
def hx (d : Nat) : UInt8 := UInt8.ofNat (if d < 10 then 48 + d else 55 + d)
def digB (b : Nat) (hb : 2 ≤ b) (u : Nat) : List UInt8 := if h : u < b then [hx u] else digB b hb (u / b) ++ [hx (u % b)]
termination_by u
decreasing_by exact Nat.div_lt_self (by omega) (by omega)
theorem digB_lt {b : Nat} (hb : 2 ≤ b) {u : Nat} (h : u < b) : digB b hb u = [hx u] := by rw [digB, dif_pos h]
theorem digB_ge {b : Nat} (hb : 2 ≤ b) {u : Nat} (h : ¬ u < b) : digB b hb u = digB b hb (u / b) ++ [hx (u % b)] := by rw [digB, dif_neg h]
theorem digB_ten (u : Nat) : digB 10 (by omega) u = Lib.decDigits u := by
  induction u using Nat.strongRecOn with
  | _ u ih =>
    by_cases h : u < 10
    · rw [digB_lt _ h, Lib.decDigits, dif_pos h]; unfold hx; rw [if_pos h]
    · rw [digB_ge _ h, Lib.decDigits, dif_neg h, ih (u / 10) (by omega)]; unfold hx; rw [if_pos (by omega)]
theorem digB_len {b : Nat} (hb : 2 ≤ b) : ∀ (j u : Nat), u < 2 ^ j → (digB b hb u).length ≤ j + 1 := by
  intro j
  induction j with
  | zero => intro u hu; rw [digB_lt hb (by simp at hu; omega)]; simp
  | succ j ih =>
    intro u hu
    by_cases h : u < b
    · rw [digB_lt hb h]; simp
    · rw [digB_ge hb h, List.length_append]
      have hd : u / b ≤ u / 2 := Nat.div_le_div_left hb (by omega)
      have := ih (u / b) (by rw [Nat.pow_succ] at hu; omega)
      simp; omega
def tab16 : ByteArray := ⟨#[48, 49, 50, 51, 52, 53, 54, 55, 56, 57, 65, 66, 67, 68, 69, 70]⟩
theorem tab16_at (d : Nat) (h : d < 16) : tab16.extract d (d + 1) = bl [hx d] := by
  have : ∀ d : Fin 16, tab16.extract d (d + 1) = bl [hx d] := by decide +kernel
  exact this ⟨d, h⟩
def pad (m : Nat) (l : List UInt8) : List UInt8 := List.replicate (m - l.length) 48 ++ l
theorem pad_ge {m : Nat} {l : List UInt8} (h : m ≤ l.length) : pad m l = l := by unfold pad; rw [show m - l.length = 0 by omega]; rfl
theorem pad_cons {m : Nat} {l : List UInt8} (h : l.length < m) : pad m (48 :: l) = pad m l := by
  unfold pad
  rw [List.length_cons, show m - l.length = (m - (l.length + 1)) + 1 by omega, List.replicate_succ', List.append_assoc]
  rfl
theorem dig_step (k u b m : Nat) (l : List UInt8) (hb : 2 ≤ b) (hb2 : b ≤ 16) (hu : u < 18446744073709551616) (hl : l.length ≤ 2000) (hc : 0 < u ∨ l.length < m) :
    salvorref1_digits.l0 (k + 1) u b m (bl l) = salvorref1_digits.l0 k ((u / b : Nat) : Int) b m (bl (hx (u % b) :: l)) := by
  have hm : u % b < b := Nat.mod_lt _ (by omega)
  have hd : u / b ≤ u := Nat.div_le_self _ _
  have e1 : Int.tmod (u : Int) (b : Int) = ((u % b : Nat) : Int) := by rw [Int.tmod_eq_emod_of_nonneg (by omega)]; rfl
  have e2 : IntKind.u64.wrap (((u % b : Nat) : Int) + 1) = ((u % b + 1 : Nat) : Int) := by rw [IntWalk.u64_in _ ⟨by omega, by omega⟩]; omega
  have e3 : IntKind.u64.wrap (Int.tdiv (u : Int) (b : Int)) = ((u / b : Nat) : Int) := by
    rw [Int.tdiv_eq_ediv_of_nonneg (by omega), show (u : Int) / (b : Int) = ((u / b : Nat) : Int) from rfl, IntWalk.u64_in _ ⟨Int.natCast_nonneg _, Int.le_trans (Int.ofNat_le.2 hd) (by omega)⟩]
  have ht : (⟨#[48, 49, 50, 51, 52, 53, 54, 55, 56, 57, 65, 66, 67, 68, 69, 70]⟩ : ByteArray).extract (u % b) (u % b + 1) = bl [hx (u % b)] := tab16_at _ (by omega)
  have hs : (bl [hx (u % b)]).size + (bl l).size ≤ 9223372036854775807 := by rw [bl_size, bl_size]; simp; omega
  rw [salvorref1_digits.l0, e1, e2, e3, Int.toNat_natCast, Int.toNat_natCast, ht, bl_append]
  by_cases c : (u : Int) > 0
  · rw [if_pos c, if_neg (by omega), if_pos (by omega), if_pos (by omega), if_pos (by omega), if_pos hs]
    rfl
  · rw [if_neg c, if_pos (by rw [bl_size]; omega), if_neg (by omega), if_pos (by omega), if_pos (by omega), if_pos (by omega), if_pos hs]
    rfl
theorem dig_zero (b m : Nat) (hb : 2 ≤ b) (hb2 : b ≤ 16) (hm : m ≤ 1000) : ∀ (d : Nat) (l : List UInt8), m - l.length = d → l.length ≤ 2000 → Ev (fun k => salvorref1_digits.l0 k 0 b m (bl l)) (bl (pad m l)) := by
  intro d
  induction d with
  | zero =>
    intro l h hl
    rw [pad_ge (by omega)]
    exact Ev.step (f := fun _ => some (bl l)) (fun k => by rw [salvorref1_digits.l0, if_neg (by omega), if_neg (by rw [bl_size]; omega)]) (Ev.now _)
  | succ d ih =>
    intro l h hl
    have := ih (48 :: l) (by simp; omega) (by simp; omega)
    rw [pad_cons (by omega)] at this
    refine Ev.step (f := fun k => salvorref1_digits.l0 k 0 b m (bl (48 :: l))) (fun k => ?_) this
    have e := dig_step k 0 b m l hb hb2 (by omega) hl (.inr (by omega))
    rw [Nat.zero_div, Nat.zero_mod] at e
    exact e
theorem dig_pos (b m : Nat) (hb : 2 ≤ b) (hb2 : b ≤ 16) (hm : m ≤ 1000) : ∀ (j u : Nat) (l : List UInt8), 0 < u → u < 2 ^ j → u < 18446744073709551616 → l.length + j ≤ 1000 →
    Ev (fun k => salvorref1_digits.l0 k u b m (bl l)) (bl (pad m (digB b hb u ++ l))) := by
  intro j
  induction j with
  | zero => intro u l h0 h1; simp at h1; omega
  | succ j ih =>
    intro u l h0 h1 h2 hl
    refine Ev.step (f := fun k => salvorref1_digits.l0 k ((u / b : Nat) : Int) b m (bl (hx (u % b) :: l))) (fun k => dig_step k u b m l hb hb2 h2 (by omega) (.inl h0)) ?_
    by_cases c : u < b
    · rw [digB_lt hb c, Nat.div_eq_of_lt c, Nat.mod_eq_of_lt c]
      exact dig_zero b m hb hb2 hm _ _ rfl (by simp; omega)
    · have hd : u / b ≤ u / 2 := Nat.div_le_div_left hb (by omega)
      have hq : 0 < u / b := Nat.div_pos (by omega) (by omega)
      have := ih (u / b) (hx (u % b) :: l) hq (by rw [Nat.pow_succ] at h1; omega) (by omega) (by simp; omega)
      rw [digB_ge hb c, List.append_assoc]
      exact this
/-- What the reference's digits are. -/
theorem digits_ev (u b m : Nat) (hb : 2 ≤ b) (hb2 : b ≤ 16) (hm : 1 ≤ m) (hm2 : m ≤ 1000) (hu : u < 18446744073709551616) : Ev (fun k => salvorref1_digits.f k u b m) (bl (pad m (digB b hb u))) := by
  unfold salvorref1_digits.f
  by_cases c : 0 < u
  · have := dig_pos b m hb hb2 hm2 64 u [] c (by simpa using hu) hu (by simp)
    rw [List.append_nil] at this
    exact this
  · obtain rfl : u = 0 := by omega
    have := dig_zero b m hb hb2 hm2 _ [] rfl (by simp)
    have e : pad m (digB b hb 0) = pad m [] := by rw [digB_lt hb (by omega)]; exact pad_cons (by simp; omega)
    rw [e]
    exact this
theorem itoa_len (n : Int) (h0 : -9223372036854775808 ≤ n) (h1 : n ≤ 9223372036854775807) : (Lib.itoa n).length ≤ 70 := by
  unfold Lib.itoa
  split
  · rw [List.length_cons, ← digB_ten]
    have := digB_len (b := 10) (by omega) 64 n.natAbs (by simp; omega)
    omega
  · rw [← digB_ten]
    have := digB_len (b := 10) (by omega) 64 n.toNat (by simp; omega)
    omega
theorem digB_ne {b : Nat} (hb : 2 ≤ b) (u : Nat) : 1 ≤ (digB b hb u).length := by
  by_cases c : u < b
  · rw [digB_lt hb c]; simp
  · rw [digB_ge hb c]; simp
/-- The reference's decimal is the library's. -/
theorem refdec_ev (n : Int) (h0 : -9223372036854775808 ≤ n) (h1 : n ≤ 9223372036854775807) : Ev (fun k => salvorref1_Dec.f k n) (bl (Lib.itoa n)) := by
  unfold salvorref1_Dec.f Lib.itoa
  by_cases c : n < 0
  · simp only [c, if_true]
    have w1 : wrap64 (n + 1) = n + 1 := by unfold wrap64; omega
    have w2 : wrap64 (-(n + 1)) = -(n + 1) := by unfold wrap64; omega
    have w3 : IntKind.u64.wrap (-(n + 1)) = -(n + 1) := IntWalk.u64_in _ ⟨by omega, by omega⟩
    have w4 : IntKind.u64.wrap (-(n + 1) + 1) = ((n.natAbs : Nat) : Int) := by rw [IntWalk.u64_in _ ⟨by omega, by omega⟩]; omega
    rw [w1, w2, w3, w4]
    have := digits_ev n.natAbs 10 1 (by omega) (by omega) (by omega) (by omega) (by omega)
    rw [pad_ge (digB_ne _ _), digB_ten] at this
    refine Ev.bind this ?_
    have hl := itoa_len n h0 h1
    unfold Lib.itoa at hl
    rw [if_pos c] at hl
    rw [if_pos (by rw [bl_size]; simp at hl; omega), show (⟨#[45]⟩ : ByteArray) = bl [45] from rfl, bl_append]
    exact Ev.now _
  · simp only [c, if_false]
    have w : IntKind.u64.wrap n = ((n.toNat : Nat) : Int) := by rw [IntWalk.u64_in _ ⟨by omega, by omega⟩]; omega
    rw [w]
    have := digits_ev n.toNat 10 1 (by omega) (by omega) (by omega) (by omega) (by omega)
    rw [pad_ge (digB_ne _ _), digB_ten] at this
    exact Ev.bind this (Ev.now _)
end Go.Proofs.YtbmhfnncagncmaaDoor.PureN
