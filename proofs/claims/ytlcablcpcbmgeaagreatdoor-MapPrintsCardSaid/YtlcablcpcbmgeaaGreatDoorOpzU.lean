/- Plain laws of numbers, of seat 2's (wip/portnum17.py). No program in sight. No conditions. -/
import Derived.Test.YtlcablcpcbmgeaaGreatDoorPx0
import Derived.Test.YtlcablcpcbmgeaaGreatDoorNumL
namespace Go.Proofs.YtlcablcpcbmgeaaGreatDoor.Num
open Go.Lib
set_option linter.unusedVariables false
set_option linter.unusedSimpArgs false
def MX : Nat := 4611686018427387904
def mulG (p : Nat) : List Nat → Option Nat
  | [] => some p
  | x :: r => if MX / p < x then none else mulG (p * x) r
def mulL (l : List Nat) : Option Nat := if 0 ∈ l then some 0 else mulG 1 l
def prod (l : List Nat) : Nat := l.foldr (· * ·) 1
theorem prod_pos : ∀ (l : List Nat), (∀ x ∈ l, 1 ≤ x) → 1 ≤ prod l
  | [], _ => Nat.le_refl _
  | x :: r, h => by
    have h1 := h x List.mem_cons_self
    have h2 := prod_pos r (fun y hy => h y (List.mem_cons_of_mem _ hy))
    show 1 ≤ x * prod r
    exact Nat.mul_pos h1 h2
theorem mulG_eq : ∀ (l : List Nat) (p : Nat), 1 ≤ p → p ≤ MX → (∀ x ∈ l, 1 ≤ x) → mulG p l = if p * prod l ≤ MX then some (p * prod l) else none
  | [], p, h1, h2, _ => by simp [mulG, prod, h2]
  | x :: r, p, h1, h2, h => by
    have hx := h x List.mem_cons_self
    have hr := prod_pos r (fun y hy => h y (List.mem_cons_of_mem _ hy))
    have e : p * prod (x :: r) = p * x * prod r := by show p * (x * prod r) = _; rw [Nat.mul_assoc]
    rw [mulG, e]
    by_cases c : MX / p < x
    · have c2 : MX < p * x := by
        rw [Nat.div_lt_iff_lt_mul h1] at c; rw [Nat.mul_comm]; exact c
      have c3 : p * x * 1 ≤ p * x * prod r := Nat.mul_le_mul_left _ hr
      rw [if_pos c, if_neg (by omega)]
    · have c2 : p * x ≤ MX := by
        have := (Nat.le_div_iff_mul_le h1).1 (Nat.le_of_not_lt c); rw [Nat.mul_comm]; exact this
      rw [if_neg c]
      exact mulG_eq r (p * x) (Nat.mul_pos h1 hx) c2 (fun y hy => h y (List.mem_cons_of_mem _ hy))
theorem mulL_eq (l : List Nat) (h : ¬ 0 ∈ l) : mulL l = if prod l ≤ MX then some (prod l) else none := by
  unfold mulL
  rw [if_neg h, mulG_eq l 1 (Nat.le_refl _) (by decide) (fun x hx => Nat.pos_of_ne_zero (fun e => h (e ▸ hx))), Nat.one_mul]
theorem mulL_le {l : List Nat} {u : Nat} (h : mulL l = some u) : u ≤ MX := by
  by_cases c : 0 ∈ l
  · unfold mulL at h; rw [if_pos c] at h; cases h; exact Nat.zero_le _
  · rw [mulL_eq l c] at h
    split at h
    · cases h; assumption
    · cases h
theorem prod_append (a b : List Nat) : prod (a ++ b) = prod a * prod b := by
  induction a with
  | nil => simp [prod]
  | cons x a ih => show x * prod (a ++ b) = x * prod a * prod b; rw [ih, Nat.mul_assoc]
theorem mulL_one (n : Nat) (h : n ≤ MX) : mulL [n] = some n := by
  by_cases c : n = 0
  · subst c; decide
  · rw [mulL_eq _ (by simp; omega)]
    have e : prod [n] = n := by simp [prod]
    rw [e, if_pos h]
theorem mulL_two (n m : Nat) : mulL [n, m] = if n * m ≤ MX then some (n * m) else none := by
  by_cases c : n = 0 ∨ m = 0
  · have e : n * m = 0 := by rcases c with rfl | rfl <;> simp
    unfold mulL
    rw [if_pos (by simp; omega), e]; rfl
  · rw [mulL_eq _ (by simp; omega)]
    have e : prod [n, m] = n * m := by simp [prod]
    rw [e]
/-- Digits of a base that are at most so many: their number. -/
def dgN (B most : Nat) (l : List UInt8) : Option Nat := if most < l.length then none else dg B l
theorem dg_le {B : Nat} {l : List UInt8} {u : Nat} (h : dg B l = some u) : u ≤ MX := by
  unfold dg at h
  split at h
  · cases h
  · split at h
    · split at h
      · cases h; assumption
      · cases h
    · cases h
theorem dgN_le {B m : Nat} {l : List UInt8} {u : Nat} (h : dgN B m l = some u) : u ≤ MX := by
  unfold dgN at h
  split at h
  · cases h
  · exact dg_le h
theorem tm_le {l : List UInt8} {b : Nat} (h : tm l = some b) : 1 ≤ b ∧ b ≤ 1073741824 := by
  unfold tm at h
  by_cases c : l = []
  · rw [if_pos c] at h; cases h; decide
  rw [if_neg c] at h; clear c
  by_cases c : l = [99]
  · rw [if_pos c] at h; cases h; decide
  rw [if_neg c] at h; clear c
  by_cases c : l = [119]
  · rw [if_pos c] at h; cases h; decide
  rw [if_neg c] at h; clear c
  by_cases c : l = [98]
  · rw [if_pos c] at h; cases h; decide
  rw [if_neg c] at h; clear c
  by_cases c : l = [107, 66]
  · rw [if_pos c] at h; cases h; decide
  rw [if_neg c] at h; clear c
  by_cases c : l = [107]
  · rw [if_pos c] at h; cases h; decide
  rw [if_neg c] at h; clear c
  by_cases c : l = [75]
  · rw [if_pos c] at h; cases h; decide
  rw [if_neg c] at h; clear c
  by_cases c : l = [77, 66]
  · rw [if_pos c] at h; cases h; decide
  rw [if_neg c] at h; clear c
  by_cases c : l = [77]
  · rw [if_pos c] at h; cases h; decide
  rw [if_neg c] at h; clear c
  by_cases c : l = [71, 66]
  · rw [if_pos c] at h; cases h; decide
  rw [if_neg c] at h; clear c
  by_cases c : l = [71]
  · rw [if_pos c] at h; cases h; decide
  rw [if_neg c] at h; clear c
  cases h
def isD (c : UInt8) : Bool := decide (48 ≤ c.toNat) && decide (c.toNat ≤ 57)
/-- A part: digits, and a suffix. -/
def partL (l : List UInt8) : Option Nat := match dgN 10 19 (l.takeWhile isD), tm (l.dropWhile isD) with
  | some n, some m => mulL [n, m]
  | _, _ => none
/-- A text parted at a byte. -/
def pieces (c : UInt8) : List UInt8 → List (List UInt8)
  | [] => [[]]
  | x :: r => if x = c then [] :: pieces c r else match pieces c r with
    | p :: ps => (x :: p) :: ps
    | [] => [[x]]
def partsL : List (List UInt8) → Option (List Nat)
  | [] => some []
  | p :: ps => match partL p with
    | some n => (partsL ps).map (n :: ·)
    | none => none
/-- A product of numbers with suffixes. -/
def getL (l : List UInt8) : Option Nat := match partsL (pieces 120 l) with
  | some ns => mulL ns
  | none => none
theorem partL_le {l : List UInt8} {u : Nat} (h : partL l = some u) : u ≤ MX := by
  unfold partL at h
  split at h
  · exact mulL_le h
  · cases h
theorem pieces_ne (c : UInt8) (l : List UInt8) : pieces c l ≠ [] := by
  cases l with
  | nil => simp [pieces]
  | cons x r =>
    rw [pieces]
    split
    · simp
    · split <;> simp
theorem pieces_cons (c : UInt8) (l : List UInt8) : pieces c l = l.takeWhile (· ≠ c) :: (match l.dropWhile (· ≠ c) with
    | [] => []
    | _ :: r => pieces c r) := by
  induction l with
  | nil => rfl
  | cons x r ih =>
    rw [pieces]
    by_cases h : x = c
    · subst h
      rw [if_pos rfl]
      simp [List.takeWhile_cons, List.dropWhile_cons]
    · rw [if_neg h, ih]
      simp [List.takeWhile_cons, List.dropWhile_cons, h]
def jn (c : UInt8) : List (List UInt8) → List UInt8
  | [] => []
  | [x] => x
  | x :: y :: r => x ++ c :: jn c (y :: r)
theorem pieces_app (c : UInt8) : ∀ (x : List UInt8) (r : List UInt8), (∀ b ∈ x, b ≠ c) → pieces c (x ++ c :: r) = x :: pieces c r
  | [], r, _ => by rw [List.nil_append, pieces, if_pos rfl]
  | b :: x, r, h => by
    have h1 : ¬ b = c := h b List.mem_cons_self
    rw [List.cons_append, pieces, if_neg h1, pieces_app c x r (fun y hy => h y (List.mem_cons_of_mem _ hy))]
theorem pieces_none (c : UInt8) : ∀ (x : List UInt8), (∀ b ∈ x, b ≠ c) → pieces c x = [x]
  | [], _ => rfl
  | b :: x, h => by
    have h1 : ¬ b = c := h b List.mem_cons_self
    rw [pieces, if_neg h1, pieces_none c x (fun y hy => h y (List.mem_cons_of_mem _ hy))]
theorem pieces_jn (c : UInt8) : ∀ (ps : List (List UInt8)), ps ≠ [] → (∀ p ∈ ps, ∀ b ∈ p, b ≠ c) → pieces c (jn c ps) = ps
  | [], h, _ => absurd rfl h
  | [x], _, h => pieces_none c x (h x List.mem_cons_self)
  | x :: y :: r, _, h => by
    rw [jn, pieces_app c x _ (h x List.mem_cons_self), pieces_jn c (y :: r) (by simp) (fun p hp => h p (List.mem_cons_of_mem _ hp))]
/-! Digits written and read again. -/
theorem nu_app (B : Nat) : ∀ (l : List UInt8) (acc : Nat) (r : List UInt8), nu B acc (l ++ r) = (nu B acc l).bind fun u => nu B u r
  | [], acc, r => rfl
  | c :: l, acc, r => by
    simp only [List.cons_append, nu]
    split
    · exact nu_app B l _ r
    · rfl
theorem nu_zeros (B : Nat) (hB : 1 ≤ B) (l : List UInt8) : ∀ k, nu B 0 (List.replicate k 48 ++ l) = nu B 0 l
  | 0 => rfl
  | k + 1 => by
    have e : dv (48 : UInt8).toNat = 0 := by decide
    rw [List.replicate_succ, List.cons_append, nu, e, if_pos (by omega), Nat.zero_mul]
    exact nu_zeros B hB l k
theorem dec_lt {u : Nat} (h : u < 10) : decDigits u = [UInt8.ofNat (48 + u)] := by rw [decDigits, dif_pos h]
theorem dec_ge {u : Nat} (h : ¬ u < 10) : decDigits u = decDigits (u / 10) ++ [UInt8.ofNat (48 + u % 10)] := by rw [decDigits, dif_neg h]
theorem dv_dec : ∀ d : Fin 10, dv (UInt8.ofNat (48 + d)).toNat = d := by decide +kernel
theorem nu_dec (B : Nat) (hB : 10 ≤ B) : ∀ u : Nat, B = 10 → nu B 0 (decDigits u) = some u := by
  intro u hB2
  induction u using Nat.strongRecOn with
  | _ u ih =>
    by_cases h : u < 10
    · rw [dec_lt h]
      have := dv_dec ⟨u, h⟩
      simp only at this
      simp only [nu, this]
      rw [if_pos (by omega)]; simp
    · rw [dec_ge h, nu_app, ih (u / 10) (by omega)]
      have := dv_dec ⟨u % 10, by omega⟩
      simp only at this
      simp only [Option.bind_some, nu, this]
      rw [if_pos (by omega)]
      congr 1
      subst hB2; omega
theorem isD_dec : ∀ d : Fin 10, isD (UInt8.ofNat (48 + d)) = true := by decide +kernel
theorem dec_isD : ∀ (u : Nat) (c : UInt8), c ∈ decDigits u → isD c = true := by
  intro u
  induction u using Nat.strongRecOn with
  | _ u ih =>
    intro c hc
    by_cases h : u < 10
    · rw [dec_lt h] at hc
      obtain rfl := List.mem_singleton.1 hc
      exact isD_dec ⟨u, h⟩
    · rw [dec_ge h] at hc
      rcases List.mem_append.1 hc with hc | hc
      · exact ih (u / 10) (by omega) c hc
      · obtain rfl := List.mem_singleton.1 hc
        exact isD_dec ⟨u % 10, by omega⟩
theorem dec_len : ∀ (j u : Nat), u < 10 ^ (j + 1) → (decDigits u).length ≤ j + 1
  | 0, u, h => by rw [dec_lt (by simpa using h)]; simp
  | j + 1, u, h => by
    by_cases c : u < 10
    · rw [dec_lt c]; simp
    · rw [dec_ge c, List.length_append]
      have := dec_len j (u / 10) (by rw [Nat.pow_succ] at h; omega)
      simp; omega
theorem dec_pos (u : Nat) : 1 ≤ (decDigits u).length := by
  by_cases c : u < 10
  · rw [dec_lt c]; simp
  · rw [dec_ge c]; simp
/-- The first digit of a number that is not 0 is none. -/
theorem dec_head : ∀ u : Nat, 1 ≤ u → ∃ c r, decDigits u = c :: r ∧ c ≠ 48 := by
  intro u
  induction u using Nat.strongRecOn with
  | _ u ih =>
    intro h1
    by_cases h : u < 10
    · refine ⟨_, [], dec_lt h, ?_⟩
      have : ∀ d : Fin 10, 1 ≤ (d : Nat) → UInt8.ofNat (48 + d) ≠ 48 := by decide +kernel
      exact this ⟨u, h⟩ h1
    · obtain ⟨c, r, e, hc⟩ := ih (u / 10) (by omega) (by omega)
      exact ⟨c, r ++ [UInt8.ofNat (48 + u % 10)], by rw [dec_ge h, e]; rfl, hc⟩
theorem dg_dec (u : Nat) (h : u ≤ MX) : dg 10 (decDigits u) = some u := by
  have hne : decDigits u ≠ [] := fun e => by have := dec_pos u; rw [e] at this; simp at this
  unfold dg
  rw [if_neg hne, nu_dec 10 (by omega) u rfl]
  exact if_pos h
theorem dg_dec_no (u : Nat) (h : MX < u) : dg 10 (decDigits u) = none := by
  unfold dg
  split
  · rfl
  · rw [nu_dec 10 (by omega) u rfl]
    simp only
    rw [if_neg (by unfold MX at h; omega)]
/-! Base 16. -/
def hu (d : Nat) : UInt8 := upperB (hl d)
theorem dv_hex : ∀ d : Fin 16, dv (upperB (hl d)).toNat = d := by decide +kernel
theorem upper_lt {u : Nat} (h : u < 16) : toUpperA (hexl u) = [upperB (hl u)] := by rw [hexl_lt h]; rfl
theorem upper_ge {u : Nat} (h : ¬ u < 16) : toUpperA (hexl u) = toUpperA (hexl (u / 16)) ++ [upperB (hl (u % 16))] := by
  rw [hexl_ge h]; unfold toUpperA; rw [List.map_append]; rfl
theorem nu_hex : ∀ u : Nat, nu 16 0 (toUpperA (hexl u)) = some u := by
  intro u
  induction u using Nat.strongRecOn with
  | _ u ih =>
    by_cases h : u < 16
    · rw [upper_lt h]
      have := dv_hex ⟨u, h⟩
      simp only at this
      simp only [nu, this]
      rw [if_pos h]; simp
    · rw [upper_ge h, nu_app, ih (u / 16) (by omega)]
      have := dv_hex ⟨u % 16, by omega⟩
      simp only at this
      simp only [Option.bind_some, nu, this]
      rw [if_pos (by omega)]
      congr 1
      omega
theorem upper_len (u : Nat) : (toUpperA (hexl u)).length = (hexl u).length := List.length_map ..
theorem hexT_eq (u : Nat) : hexT u = [48, 120] ++ (List.replicate (8 - (hexl u).length) 48 ++ toUpperA (hexl u)) := by unfold hexT; rw [List.append_assoc]
end Go.Proofs.YtlcablcpcbmgeaaGreatDoor.Num
