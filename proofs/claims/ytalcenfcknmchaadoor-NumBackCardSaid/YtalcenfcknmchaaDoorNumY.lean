/- Plain laws: what is written is read again. No program in sight. No conditions beyond those that the lemmas name. -/
import Derived.Test.YtalcenfcknmchaaDoorPx0
import Derived.Test.YtalcenfcknmchaaDoorNumU
namespace Go.Proofs.YtalcenfcknmchaaDoor.Num
open Go.Lib
set_option linter.unusedVariables false
set_option linter.unusedSimpArgs false
theorem isD_ne (c : UInt8) (h : isD c = true) : c ≠ 120 ∧ c ≠ 45 := by
  constructor
  · rintro rfl; exact absurd h (by decide)
  · rintro rfl; exact absurd h (by decide)
theorem while_all {α : Type} (p : α → Bool) (l : List α) (h : ∀ x ∈ l, p x = true) : l.takeWhile p = l ∧ l.dropWhile p = [] := by
  induction l with
  | nil => exact ⟨rfl, rfl⟩
  | cons x r ih =>
    obtain ⟨h1, h2⟩ := ih (fun y hy => h y (List.mem_cons_of_mem _ hy))
    rw [List.takeWhile_cons, List.dropWhile_cons, h x List.mem_cons_self]
    exact ⟨by simp [h1], by simp [h2]⟩
theorem partL_sfx (l t : List UInt8) (h : ∀ c ∈ l, isD c = true) (ht : t.takeWhile isD = []) (ht2 : t.dropWhile isD = t) : partL (l ++ t) = match dgN 10 19 l, tm t with
  | some n, some m => mulL [n, m]
  | _, _ => none := by
  unfold partL
  rw [List.takeWhile_append_of_pos h, List.dropWhile_append_of_pos h, ht, ht2, List.append_nil]
  cases dgN 10 19 l <;> cases tm t <;> rfl
theorem getL_digits (l : List UInt8) (h : ∀ c ∈ l, isD c = true) : getL l = dgN 10 19 l := by
  have hp := pieces_none 120 l (fun c hc => (isD_ne c (h c hc)).1)
  have h2 := partL_sfx l [] h rfl rfl
  rw [List.append_nil] at h2
  unfold getL
  rw [hp, partsL, h2, partsL]
  cases e : dgN 10 19 l with
  | none => rfl
  | some n =>
    have hn := dgN_le e
    have e1 : tm [] = some 1 := rfl
    rw [e1]
    simp only
    rw [mulL_two, if_pos (by omega), Nat.mul_one]
    simp only [Option.map_some]
    exact mulL_one n hn
theorem dgN_dec (u : Nat) (h : u < 10 ^ 19) : dgN 10 19 (decDigits u) = if u ≤ MX then some u else none := by
  have hl := dec_len 18 u h
  unfold dgN
  rw [if_neg (by omega)]
  by_cases c : u ≤ MX
  · rw [if_pos c]; exact dg_dec u c
  · rw [if_neg c]; exact dg_dec_no u (by omega)
theorem dgN_hex (u : Nat) (h : u < 16 ^ 16) : dgN 16 16 ((hexT u).drop 2) = if u ≤ MX then some u else none := by
  have hl := hexl_len 15 u h
  have hp := hexl_pos u
  have e : (hexT u).drop 2 = List.replicate (8 - (hexl u).length) 48 ++ toUpperA (hexl u) := by rw [hexT_eq]; rfl
  have hlen : ((hexT u).drop 2).length = 8 - (hexl u).length + (hexl u).length := by rw [e, List.length_append, List.length_replicate, upper_len]
  unfold dgN dg
  rw [if_neg (by omega), if_neg (fun h => by rw [h] at hlen; simp at hlen; omega), e, nu_zeros 16 (by omega), nu_hex u]
  rfl
theorem hexT_len (u : Nat) : 10 ≤ (hexT u).length := by
  rw [hexT_eq]
  simp only [List.length_append, List.length_replicate, upper_len, List.length_cons, List.length_nil]
  omega
/-- Decimal digits as digits of base 16. -/
theorem nu16 : ∀ (l : List UInt8) (acc : Nat), (∀ c ∈ l, isD c = true) → ∃ v, nu 16 acc l = some v ∧ v + 1 ≤ (acc + 1) * 16 ^ l.length
  | [], acc, _ => ⟨acc, rfl, by simp⟩
  | c :: r, acc, h => by
    have hc := h c List.mem_cons_self
    have hd : dv c.toNat < 10 := by
      unfold isD at hc
      rw [Bool.and_eq_true, decide_eq_true_iff, decide_eq_true_iff] at hc
      unfold dv; rw [if_pos hc]; omega
    obtain ⟨v, h1, h2⟩ := nu16 r (acc * 16 + dv c.toNat) (fun x hx => h x (List.mem_cons_of_mem _ hx))
    refine ⟨v, by rw [nu, if_pos (by omega)]; exact h1, Nat.le_trans h2 ?_⟩
    rw [List.length_cons, Nat.pow_succ, Nat.mul_comm (16 ^ r.length) 16, ← Nat.mul_assoc]
    exact Nat.mul_le_mul_right _ (by omega)
theorem zeros_isD (m : Nat) (l : List UInt8) (h : ∀ c ∈ l, isD c = true) : ∀ c ∈ List.replicate m 48 ++ l, isD c = true := by
  intro c hc
  rcases List.mem_append.1 hc with hc | hc
  · rw [List.eq_of_mem_replicate hc]; decide
  · exact h c hc
theorem dgN_zeros (m n : Nat) (hn : n < 10 ^ 10) (hm : m ≤ 6) : dgN 10 19 (List.replicate m 48 ++ decDigits n) = some n := by
  have hl := dec_len 9 n hn
  have hp := dec_pos n
  have hlen : (List.replicate m (48 : UInt8) ++ decDigits n).length = m + (decDigits n).length := by rw [List.length_append, List.length_replicate]
  unfold dgN dg
  rw [if_neg (by omega), if_neg (fun h => by rw [h] at hlen; simp at hlen; omega), nu_zeros 10 (by omega), nu_dec 10 (by omega) n rfl]
  exact if_pos (by omega)
theorem dgN_zeros16 (m n : Nat) (hn : n < 10 ^ 10) (hm : m ≤ 6) : ∃ v, dgN 16 16 (List.replicate m 48 ++ decDigits n) = some v ∧ dgN 16 16 (decDigits n) = some v := by
  have hl := dec_len 9 n hn
  have hp := dec_pos n
  obtain ⟨v, h1, h2⟩ := nu16 (decDigits n) 0 (dec_isD n)
  have h3 : 16 ^ (decDigits n).length ≤ 16 ^ 10 := Nat.pow_le_pow_right (by omega) hl
  have hv : v ≤ 4611686018427387904 := by omega
  have key : ∀ m, m ≤ 6 → dgN 16 16 (List.replicate m 48 ++ decDigits n) = some v := by
    intro m hm
    have hlen : (List.replicate m (48 : UInt8) ++ decDigits n).length = m + (decDigits n).length := by rw [List.length_append, List.length_replicate]
    unfold dgN dg
    rw [if_neg (by omega), if_neg (fun h => by rw [h] at hlen; simp at hlen; omega), nu_zeros 16 (by omega), h1]
    exact if_pos hv
  exact ⟨v, key m hm, key 0 (by omega)⟩
end Go.Proofs.YtalcenfcknmchaaDoor.Num
