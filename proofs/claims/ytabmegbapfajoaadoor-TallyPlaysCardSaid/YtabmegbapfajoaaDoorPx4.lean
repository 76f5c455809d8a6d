/- Laid by a program of this session's own (wip/wprint.py, over the kit's print.py): functions of the given program as plain Lean functions, and that the program's calls come to their answers. -/
import Derived.Test.YtabmegbapfajoaaDoorPx0
namespace Go.Proofs.YtabmegbapfajoaaDoor.P
open Go.RowKit Go.Proofs.YtabmegbapfajoaaDoorW.PrintWords Go.Proofs.YtabmegbapfajoaaDoorW.PrintLast Go.Proofs.YtabmegbapfajoaaDoorW.PrintMore
attribute [local go_sem] max2_int min2_int max_two min_two max_three min_three max_four min_four   -- for this text's walks alone
set_option linter.unusedVariables false
set_option linter.unusedSimpArgs false

/-! ### strconv_bool2_int: function 27 -/
def strconv_bool2_int.f (a0 : Bool) : Option (Int) := if a0 = true then (some 1) else (some 0)
set_option maxHeartbeats 8000000 in
set_option maxRecDepth 100000 in
theorem strconv_bool2_int.calls (a0 : Bool) (r : Int) (w : World) (h : strconv_bool2_int.f a0 = some r) :
    Calls Tryd.prog 27 #[.bool a0] w fun e w' => e = .returned (.int .i64 r) ∧ Drawn0 w w' := by
  have H : (if a0 = true then (some 1) else (some 0)) = some r := h
  clear h
  by_cases c2 : a0 = true
  · subst c2
    have H1 : (some 1) = some r := by rw [if_pos rfl] at H; exact H
    clear H
    have H := H1
    clear H1
    obtain rfl := Option.some.inj H
    go_enter Tryd.func27, Tryd.ntmps27
    go_wp2
    go_ret
    exact ⟨by first | rfl | (simp; done) | (simp [*]; done), by repeat (first | exact Drawn0.refl _ | apply Drawn0.step)⟩
  · replace c2 := Bool.eq_false_iff.mpr c2
    subst c2
    have H1 : (some 0) = some r := by rw [if_neg (show ¬ (false = true) by decide)] at H; exact H
    clear H
    have H := H1
    clear H1
    obtain rfl := Option.some.inj H
    go_enter Tryd.func27, Tryd.ntmps27
    go_wp2
    go_ret
    exact ⟨by first | rfl | (simp; done) | (simp [*]; done), by repeat (first | exact Drawn0.refl _ | apply Drawn0.step)⟩

-- NOT PRINTED: function 22 (strconv_numDigits)

-- NOT PRINTED: function 23 (strconv_formatBase10)

/-! ### strconv_isPowerOfTwo: function 28 -/
def strconv_isPowerOfTwo.f (a0 : Int) : Option (Bool) := some ((Go.bits .and .i64 a0 (wrap64 (a0 - 1))) == 0)
set_option maxHeartbeats 8000000 in
set_option maxRecDepth 100000 in
theorem strconv_isPowerOfTwo.calls (a0 : Int) (r : Bool) (w : World) (h : strconv_isPowerOfTwo.f a0 = some r) :
    Calls Tryd.prog 28 #[.int .i64 a0] w fun e w' => e = .returned (.bool r) ∧ Drawn0 w w' := by
  have H : (some ((Go.bits .and .i64 a0 (wrap64 (a0 - 1))) == 0)) = some r := h
  clear h
  obtain rfl := Option.some.inj H
  go_enter Tryd.func28, Tryd.ntmps28
  go_wp2
  go_ret
  exact ⟨by first | rfl | (simp; done) | (simp [*]; done), by repeat (first | exact Drawn0.refl _ | apply Drawn0.step)⟩

-- NOT PRINTED: function 30 (bits_TrailingZeros32)

-- NOT PRINTED: function 31 (bits_TrailingZeros64)

-- NOT PRINTED: function 29 (bits_TrailingZeros)

-- NOT PRINTED: function 24 (strconv_formatBits)

-- NOT PRINTED: function 20 (strconv_FormatInt)

-- NOT PRINTED: function 19 (strconv_Itoa_19)

-- NOT PRINTED: function 17 (strconv_Itoa_17)

/-! ### num_Dec: function 15 -/
def num_Dec.f (a0 : Int) : Option (ByteArray) := if -9223372036854775808 ≤ a0 then (if a0 ≤ 9223372036854775807 then some ⟨(Lib.itoa a0).toArray⟩ else none) else none
set_option maxHeartbeats 8000000 in
set_option maxRecDepth 100000 in
theorem num_Dec.calls (a0 : Int) (r : ByteArray) (w : World)  (h : num_Dec.f a0 = some r) (htab : TabAt w) :
    Calls Tryd.prog 15 #[.int .i64 a0] w fun e w' => e = .returned (.string r) ∧ Below w.heap.size w w' := by
  unfold num_Dec.f at h
  by_cases h0 : -9223372036854775808 ≤ a0
  · rw [if_pos h0] at h
    by_cases h1 : a0 ≤ 9223372036854775807
    · rw [if_pos h1] at h
      obtain rfl := Option.some.inj h
      go_enter Tryd.func15, Tryd.ntmps15
      go_wp2_with (go_at_call 17; refine (Go.Proofs.Tryd.strconv_Itoa a0 h0 h1 _ htab).mono ?_; rintro e w' ⟨rfl, k, os, rfl⟩)
      go_ret
      exact ⟨rfl, Lib.below_grow _ _ (Nat.le_refl _) _ _⟩
    · rw [if_neg h1] at h; cases h
  · rw [if_neg h0] at h; cases h

/-! ### tally_records: function 14 -/
def tally_records.f (a0 : Int) (a1 : Int) (a2 : ByteArray) : Option (ByteArray) := (num_Dec.f a0).bind fun t121 => (if t121.size + 1 ≤ 9223372036854775807 then ((num_Dec.f a1).bind fun t122 => (if (t121 ++ (⟨#[43]⟩ : ByteArray)).size + t122.size ≤ 9223372036854775807 then (if ((t121 ++ (⟨#[43]⟩ : ByteArray)) ++ t122).size + 9 ≤ 9223372036854775807 then (if (((t121 ++ (⟨#[43]⟩ : ByteArray)) ++ t122) ++ (⟨#[32, 114, 101, 99, 111, 114, 100, 115, 32]⟩ : ByteArray)).size + a2.size ≤ 9223372036854775807 then (if ((((t121 ++ (⟨#[43]⟩ : ByteArray)) ++ t122) ++ (⟨#[32, 114, 101, 99, 111, 114, 100, 115, 32]⟩ : ByteArray)) ++ a2).size + 1 ≤ 9223372036854775807 then (some (((((t121 ++ (⟨#[43]⟩ : ByteArray)) ++ t122) ++ (⟨#[32, 114, 101, 99, 111, 114, 100, 115, 32]⟩ : ByteArray)) ++ a2) ++ (⟨#[10]⟩ : ByteArray))) else (none)) else (none)) else (none)) else (none))) else (none))
set_option maxHeartbeats 8000000 in
set_option maxRecDepth 100000 in
theorem tally_records.calls (a0 : Int) (a1 : Int) (a2 : ByteArray) (r : ByteArray) (w : World) (h : tally_records.f a0 a1 a2 = some r) (htab : TabAt w) :
    Calls Tryd.prog 14 #[.int .i64 a0, .int .i64 a1, .string a2] w fun e w' => e = .returned (.string r) ∧ Below w.heap.size w w' := by
  have HTAB := Aside0.mk htab
  clear htab
  have HB := Aside0.mk (Below.refl w.heap.size w)
  have H : ((num_Dec.f a0).bind fun t121 => (if t121.size + 1 ≤ 9223372036854775807 then ((num_Dec.f a1).bind fun t122 => (if (t121 ++ (⟨#[43]⟩ : ByteArray)).size + t122.size ≤ 9223372036854775807 then (if ((t121 ++ (⟨#[43]⟩ : ByteArray)) ++ t122).size + 9 ≤ 9223372036854775807 then (if (((t121 ++ (⟨#[43]⟩ : ByteArray)) ++ t122) ++ (⟨#[32, 114, 101, 99, 111, 114, 100, 115, 32]⟩ : ByteArray)).size + a2.size ≤ 9223372036854775807 then (if ((((t121 ++ (⟨#[43]⟩ : ByteArray)) ++ t122) ++ (⟨#[32, 114, 101, 99, 111, 114, 100, 115, 32]⟩ : ByteArray)) ++ a2).size + 1 ≤ 9223372036854775807 then (some (((((t121 ++ (⟨#[43]⟩ : ByteArray)) ++ t122) ++ (⟨#[32, 114, 101, 99, 111, 114, 100, 115, 32]⟩ : ByteArray)) ++ a2) ++ (⟨#[10]⟩ : ByteArray))) else (none)) else (none)) else (none)) else (none))) else (none))) = some r := h
  clear h
  replace H := Option.bind_eq_some_iff.mp H
  obtain ⟨t121, A40, H⟩ := H
  replace H : (if t121.size + 1 ≤ 9223372036854775807 then ((num_Dec.f a1).bind fun t122 => (if (t121 ++ (⟨#[43]⟩ : ByteArray)).size + t122.size ≤ 9223372036854775807 then (if ((t121 ++ (⟨#[43]⟩ : ByteArray)) ++ t122).size + 9 ≤ 9223372036854775807 then (if (((t121 ++ (⟨#[43]⟩ : ByteArray)) ++ t122) ++ (⟨#[32, 114, 101, 99, 111, 114, 100, 115, 32]⟩ : ByteArray)).size + a2.size ≤ 9223372036854775807 then (if ((((t121 ++ (⟨#[43]⟩ : ByteArray)) ++ t122) ++ (⟨#[32, 114, 101, 99, 111, 114, 100, 115, 32]⟩ : ByteArray)) ++ a2).size + 1 ≤ 9223372036854775807 then (some (((((t121 ++ (⟨#[43]⟩ : ByteArray)) ++ t122) ++ (⟨#[32, 114, 101, 99, 111, 114, 100, 115, 32]⟩ : ByteArray)) ++ a2) ++ (⟨#[10]⟩ : ByteArray))) else (none)) else (none)) else (none)) else (none))) else (none)) = some r := H
  have A4 := Aside0.mk A40
  clear A40
  by_cases c5 : t121.size + 1 ≤ 9223372036854775807
  · rw [if_pos c5] at H
    have c5b0 := eq_true c5
    have c5b1 : decide (t121.size + 1 ≤ 9223372036854775807) = true := decide_eq_true c5
    try have c5b2 : (9223372036854775807 < t121.size + 1) = False := eq_false (Nat.not_lt.2 c5)
    replace H := Option.bind_eq_some_iff.mp H
    obtain ⟨t122, A60, H⟩ := H
    replace H : (if (t121 ++ (⟨#[43]⟩ : ByteArray)).size + t122.size ≤ 9223372036854775807 then (if ((t121 ++ (⟨#[43]⟩ : ByteArray)) ++ t122).size + 9 ≤ 9223372036854775807 then (if (((t121 ++ (⟨#[43]⟩ : ByteArray)) ++ t122) ++ (⟨#[32, 114, 101, 99, 111, 114, 100, 115, 32]⟩ : ByteArray)).size + a2.size ≤ 9223372036854775807 then (if ((((t121 ++ (⟨#[43]⟩ : ByteArray)) ++ t122) ++ (⟨#[32, 114, 101, 99, 111, 114, 100, 115, 32]⟩ : ByteArray)) ++ a2).size + 1 ≤ 9223372036854775807 then (some (((((t121 ++ (⟨#[43]⟩ : ByteArray)) ++ t122) ++ (⟨#[32, 114, 101, 99, 111, 114, 100, 115, 32]⟩ : ByteArray)) ++ a2) ++ (⟨#[10]⟩ : ByteArray))) else (none)) else (none)) else (none)) else (none)) = some r := H
    have A6 := Aside0.mk A60
    clear A60
    by_cases c7 : (t121 ++ (⟨#[43]⟩ : ByteArray)).size + t122.size ≤ 9223372036854775807
    · rw [if_pos c7] at H
      have c7b0 := eq_true c7
      have c7b1 : decide ((t121 ++ (⟨#[43]⟩ : ByteArray)).size + t122.size ≤ 9223372036854775807) = true := decide_eq_true c7
      try have c7b2 : (9223372036854775807 < (t121 ++ (⟨#[43]⟩ : ByteArray)).size + t122.size) = False := eq_false (Nat.not_lt.2 c7)
      try have c7b3 : (9223372036854775807 < t121.size + 1 + t122.size) = False := eq_false (Nat.not_lt.2 (by have h_ := c7; simp only [ByteArray.size_append] at h_; exact h_))
      by_cases c8 : ((t121 ++ (⟨#[43]⟩ : ByteArray)) ++ t122).size + 9 ≤ 9223372036854775807
      · rw [if_pos c8] at H
        have c8b0 := eq_true c8
        have c8b1 : decide (((t121 ++ (⟨#[43]⟩ : ByteArray)) ++ t122).size + 9 ≤ 9223372036854775807) = true := decide_eq_true c8
        try have c8b2 : (9223372036854775807 < ((t121 ++ (⟨#[43]⟩ : ByteArray)) ++ t122).size + 9) = False := eq_false (Nat.not_lt.2 c8)
        try have c8b3 : (9223372036854775807 < t121.size + 1 + t122.size + 9) = False := eq_false (Nat.not_lt.2 (by have h_ := c8; simp only [ByteArray.size_append] at h_; exact h_))
        by_cases c9 : (((t121 ++ (⟨#[43]⟩ : ByteArray)) ++ t122) ++ (⟨#[32, 114, 101, 99, 111, 114, 100, 115, 32]⟩ : ByteArray)).size + a2.size ≤ 9223372036854775807
        · rw [if_pos c9] at H
          have c9b0 := eq_true c9
          have c9b1 : decide ((((t121 ++ (⟨#[43]⟩ : ByteArray)) ++ t122) ++ (⟨#[32, 114, 101, 99, 111, 114, 100, 115, 32]⟩ : ByteArray)).size + a2.size ≤ 9223372036854775807) = true := decide_eq_true c9
          try have c9b2 : (9223372036854775807 < (((t121 ++ (⟨#[43]⟩ : ByteArray)) ++ t122) ++ (⟨#[32, 114, 101, 99, 111, 114, 100, 115, 32]⟩ : ByteArray)).size + a2.size) = False := eq_false (Nat.not_lt.2 c9)
          try have c9b3 : (9223372036854775807 < t121.size + 1 + t122.size + 9 + a2.size) = False := eq_false (Nat.not_lt.2 (by have h_ := c9; simp only [ByteArray.size_append] at h_; exact h_))
          by_cases c10 : ((((t121 ++ (⟨#[43]⟩ : ByteArray)) ++ t122) ++ (⟨#[32, 114, 101, 99, 111, 114, 100, 115, 32]⟩ : ByteArray)) ++ a2).size + 1 ≤ 9223372036854775807
          · rw [if_pos c10] at H
            have c10b0 := eq_true c10
            have c10b1 : decide (((((t121 ++ (⟨#[43]⟩ : ByteArray)) ++ t122) ++ (⟨#[32, 114, 101, 99, 111, 114, 100, 115, 32]⟩ : ByteArray)) ++ a2).size + 1 ≤ 9223372036854775807) = true := decide_eq_true c10
            try have c10b2 : (9223372036854775807 < ((((t121 ++ (⟨#[43]⟩ : ByteArray)) ++ t122) ++ (⟨#[32, 114, 101, 99, 111, 114, 100, 115, 32]⟩ : ByteArray)) ++ a2).size + 1) = False := eq_false (Nat.not_lt.2 c10)
            try have c10b3 : (9223372036854775807 < t121.size + 1 + t122.size + 9 + a2.size + 1) = False := eq_false (Nat.not_lt.2 (by have h_ := c10; simp only [ByteArray.size_append] at h_; exact h_))
            obtain rfl := Option.some.inj H
            go_enter Tryd.func14, Tryd.ntmps14
            go_wp2_with (first | ((with_reducible refine gate_callee (f := 15) rfl ?_); refine gl_ (some 8) rfl rfl Tryd.func15 (by kernel_rfl) rfl #[.int .i64 a0] rfl ?_; (with_reducible refine (num_Dec.calls a0 t121 _ A4.out ?tb0_).mono ?_); (case tb0_ => exact tb_ HTAB HB); rintro e w11 ⟨rfl, hb⟩; refine ⟨_, rfl, ?_⟩; replace HB := bs_ HB hb; (try clear hb); (try clear hb2); (try clear hk); (try clear hi)) | ((with_reducible refine gate_callee (f := 15) rfl ?_); refine gl_ (some 11) rfl rfl Tryd.func15 (by kernel_rfl) rfl #[.int .i64 a1] rfl ?_; (with_reducible refine (num_Dec.calls a1 t122 _ A6.out ?tb2_).mono ?_); (case tb2_ => exact tb_ HTAB HB); rintro e w12 ⟨rfl, hb⟩; refine ⟨_, rfl, ?_⟩; replace HB := bs_ HB hb; (try clear hb); (try clear hb2); (try clear hk); (try clear hi)))
            go_ret
            exact ⟨by first | rfl | (simp [errW_none, errW_some] <;> rfl) | (simp [*, errW_none, errW_some] <;> rfl), bh_ HB⟩
          · rw [if_neg c10] at H
            exact absurd H (by simp)
        · rw [if_neg c9] at H
          exact absurd H (by simp)
      · rw [if_neg c8] at H
        exact absurd H (by simp)
    · rw [if_neg c7] at H
      exact absurd H (by simp)
  · rw [if_neg c5] at H
    exact absurd H (by simp)

end Go.Proofs.YtabmegbapfajoaaDoor.P
