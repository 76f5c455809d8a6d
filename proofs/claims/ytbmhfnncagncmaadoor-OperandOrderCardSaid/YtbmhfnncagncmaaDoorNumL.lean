/- Plain laws: numbers read of digits, and written. No program in sight. No conditions beyond those that the lemmas name. -/
import Derived.Lib.ParseIntBMem
import Derived.Lib.AtoiTie
import Derived.Lib.ItoaNum
import Derived.IntWalk
import Derived.Lib.Case
import Derived.Lib.Repeat
namespace Go.Proofs.YtbmhfnncagncmaaDoor.Num
open Go.Lib
set_option linter.unusedVariables false
set_option linter.unusedSimpArgs false
/-- What a byte counts for as a digit; 99: for none. -/
def dv (c : Nat) : Nat := if 48 ≤ c ∧ c ≤ 57 then c - 48 else if 97 ≤ c ||| 32 ∧ c ||| 32 ≤ 122 then (c ||| 32) - 87 else 99
/-- What the library's ParseUint makes of digits of a base, at 63 bits. -/
def pu (B : Nat) : Nat → List UInt8 → NumEnd Nat
  | acc, [] => .ok acc
  | acc, c :: r => if dv c.toNat < B then (if 9223372036854775807 < acc * B + dv c.toNat then .range else pu B (acc * B + dv c.toNat) r) else .ofOption none
/-- The number of digits of a base, of whatever size. -/
def nu (B : Nat) : Nat → List UInt8 → Option Nat
  | acc, [] => some acc
  | acc, c :: r => if dv c.toNat < B then nu B (acc * B + dv c.toNat) r else none
theorem nu_ge {B : Nat} (hB : 1 ≤ B) : ∀ (l : List UInt8) (acc u : Nat), nu B acc l = some u → acc ≤ u
  | [], acc, u, h => by simp only [nu, Option.some.injEq] at h; omega
  | c :: r, acc, u, h => by
    simp only [nu] at h
    split at h
    · have := nu_ge hB r _ u h
      have h2 : acc * 1 ≤ acc * B := Nat.mul_le_mul_left acc hB
      omega
    · cases h
theorem pu_nu {B : Nat} (hB : 1 ≤ B) : ∀ (l : List UInt8) (acc : Nat), acc ≤ 9223372036854775807 →
    (∀ u, pu B acc l = .ok u → nu B acc l = some u ∧ u ≤ 9223372036854775807) ∧ (pu B acc l = .range → ∀ u, nu B acc l = some u → 9223372036854775807 < u) ∧ (pu B acc l = .ofOption none → nu B acc l = none)
  | [], acc, h => ⟨fun u e => by simp only [pu, NumEnd.ok.injEq] at e; subst e; exact ⟨rfl, h⟩, fun e => by simp [pu] at e, fun e => by simp [pu, NumEnd.ofOption] at e⟩
  | c :: r, acc, h => by
    simp only [pu, nu]
    by_cases h1 : dv c.toNat < B
    · simp only [h1, if_true]
      by_cases h2 : 9223372036854775807 < acc * B + dv c.toNat
      · simp only [h2, if_true]
        refine ⟨fun u e => ?_, fun _ u e => Nat.lt_of_lt_of_le h2 (nu_ge hB r _ u e), fun e => ?_⟩ <;> cases e
      · simp only [h2, if_false]
        exact pu_nu hB r _ (by omega)
    · simp only [h1, if_false]
      refine ⟨fun u e => ?_, fun e => ?_, fun _ => trivial⟩ <;> cases e
/-- Digits of a base: their number, if it is a place. -/
def dg (B : Nat) (l : List UInt8) : Option Nat := if l = [] then none else match nu B 0 l with
  | some u => if u ≤ 4611686018427387904 then some u else none
  | none => none
theorem dg_ok {B : Nat} (hB : 1 ≤ B) {l : List UInt8} (hl : l ≠ []) {u : Nat} (h : pu B 0 l = .ok u) : dg B l = if u ≤ 4611686018427387904 then some u else none := by
  have := ((pu_nu hB l 0 (by omega)).1 u h).1
  unfold dg; rw [if_neg hl, this]
theorem dg_range {B : Nat} (hB : 1 ≤ B) {l : List UInt8} (h : pu B 0 l = .range) : dg B l = none := by
  have := (pu_nu hB l 0 (by omega)).2.1 h
  unfold dg
  split
  · rfl
  · split
    · next u e => rw [if_neg (by have := this u e; omega)]
    · rfl
theorem dg_syntax {B : Nat} (hB : 1 ≤ B) {l : List UInt8} (h : pu B 0 l = .ofOption none) : dg B l = none := by
  have := (pu_nu hB l 0 (by omega)).2.2 h
  unfold dg
  split
  · rfl
  · rw [this]
/-- What digits answers. -/
def val : Option Nat → Int × Bool
  | some u => ((u : Int), true)
  | none => (0, false)
/-- What a suffix says. -/
def tm (l : List UInt8) : Option Nat :=
  if l = [] then some 1 else if l = [99] then some 1 else if l = [119] then some 2 else if l = [98] then some 512 else if l = [107, 66] then some 1000
  else if l = [107] then some 1024 else if l = [75] then some 1024 else if l = [77, 66] then some 1000000 else if l = [77] then some 1048576
  else if l = [71, 66] then some 1000000000 else if l = [71] then some 1073741824 else none
def tv : Option Nat → Int × Bool
  | some u => ((u : Int), true)
  | none => (0, false)
/-- The digits of base 16, in small letters. -/
def hl (d : Nat) : UInt8 := UInt8.ofNat (if d < 10 then 48 + d else 87 + d)
def hexl (u : Nat) : List UInt8 := if h : u < 16 then [hl u] else hexl (u / 16) ++ [hl (u % 16)]
termination_by u
decreasing_by exact Nat.div_lt_self (by omega) (by omega)
theorem hexl_lt {u : Nat} (h : u < 16) : hexl u = [hl u] := by rw [hexl, dif_pos h]
theorem hexl_ge {u : Nat} (h : ¬ u < 16) : hexl u = hexl (u / 16) ++ [hl (u % 16)] := by rw [hexl, dif_neg h]
theorem hexl_len : ∀ (j u : Nat), u < 16 ^ (j + 1) → (hexl u).length ≤ j + 1
  | 0, u, h => by rw [hexl_lt (by simpa using h)]; simp
  | j + 1, u, h => by
    by_cases c : u < 16
    · rw [hexl_lt c]; simp
    · rw [hexl_ge c, List.length_append]
      have := hexl_len j (u / 16) (by rw [Nat.pow_succ] at h; omega)
      simp; omega
theorem hexl_pos (u : Nat) : 1 ≤ (hexl u).length := by
  by_cases c : u < 16
  · rw [hexl_lt c]; simp
  · rw [hexl_ge c]; simp
theorem hl_lt (d : Nat) (h : d < 16) : (hl d).toNat < 128 := by
  have : ∀ d : Fin 16, (hl d).toNat < 128 := by decide +kernel
  exact this ⟨d, h⟩
theorem hexl_ascii : ∀ (u : Nat) (c : UInt8), c ∈ hexl u → c.toNat < 128 := by
  intro u
  induction u using Nat.strongRecOn with
  | _ u ih =>
    intro c hc
    by_cases h : u < 16
    · rw [hexl_lt h] at hc
      obtain rfl := List.mem_singleton.1 hc
      exact hl_lt u h
    · rw [hexl_ge h] at hc
      rcases List.mem_append.1 hc with hc | hc
      · exact ih (u / 16) (by omega) c hc
      · obtain rfl := List.mem_singleton.1 hc
        exact hl_lt _ (by omega)
/-- What Hex writes of a number that is not negative. -/
def hexT (u : Nat) : List UInt8 := [48, 120] ++ List.replicate (8 - (hexl u).length) 48 ++ toUpperA (hexl u)
theorem rep48 (n : Nat) : repeatL [48] n = List.replicate n 48 := by
  induction n with
  | zero => rfl
  | succ n ih => rw [repeatL, ih]; rfl
end Go.Proofs.YtbmhfnncagncmaaDoor.Num
