/- Laid by a program of this session's own (wip/wprint.py, over the kit's print.py): functions of the given program as plain Lean functions, and that the program's calls come to their answers. -/
import Derived.Test.YtbmhfnncagncmaaDoorPx0
namespace Go.Proofs.YtbmhfnncagncmaaDoor.P
open Go.RowKit Go.Proofs.YtbmhfnncagncmaaDoorW.PrintWords Go.Proofs.YtbmhfnncagncmaaDoorW.PrintLast Go.Proofs.YtbmhfnncagncmaaDoorW.PrintMore
attribute [local go_sem] max2_int min2_int max_two min_two max_three min_three max_four min_four   -- for this text's walks alone
set_option linter.unusedVariables false
set_option linter.unusedSimpArgs false

/-! ### salvorref1_digits: function 47 -/
def salvorref1_digits.l0 : Nat → Int → Int → Int → ByteArray → Option (ByteArray)
 | 0, _, _, _, _ => none
 | k + 1, x0, x1, x2, x7 => if x0 > 0 then (if x1 = 0 then (none) else (if 0 ≤ (Int.tmod x0 x1) then (if (Int.tmod x0 x1) ≤ (IntKind.u64.wrap ((Int.tmod x0 x1) + 1)) then (if (IntKind.u64.wrap ((Int.tmod x0 x1) + 1)) ≤ 16 then (if ((⟨#[48, 49, 50, 51, 52, 53, 54, 55, 56, 57, 65, 66, 67, 68, 69, 70]⟩ : ByteArray).extract ((Int.tmod x0 x1) : Int).toNat ((IntKind.u64.wrap ((Int.tmod x0 x1) + 1)) : Int).toNat).size + x7.size ≤ 9223372036854775807 then (salvorref1_digits.l0 k (IntKind.u64.wrap (Int.tdiv x0 x1)) x1 x2 (((⟨#[48, 49, 50, 51, 52, 53, 54, 55, 56, 57, 65, 66, 67, 68, 69, 70]⟩ : ByteArray).extract ((Int.tmod x0 x1) : Int).toNat ((IntKind.u64.wrap ((Int.tmod x0 x1) + 1)) : Int).toNat) ++ x7)) else (none)) else (none)) else (none)) else (none))) else (if (x7.size : Int) < x2 then (if x1 = 0 then (none) else (if 0 ≤ (Int.tmod x0 x1) then (if (Int.tmod x0 x1) ≤ (IntKind.u64.wrap ((Int.tmod x0 x1) + 1)) then (if (IntKind.u64.wrap ((Int.tmod x0 x1) + 1)) ≤ 16 then (if ((⟨#[48, 49, 50, 51, 52, 53, 54, 55, 56, 57, 65, 66, 67, 68, 69, 70]⟩ : ByteArray).extract ((Int.tmod x0 x1) : Int).toNat ((IntKind.u64.wrap ((Int.tmod x0 x1) + 1)) : Int).toNat).size + x7.size ≤ 9223372036854775807 then (salvorref1_digits.l0 k (IntKind.u64.wrap (Int.tdiv x0 x1)) x1 x2 (((⟨#[48, 49, 50, 51, 52, 53, 54, 55, 56, 57, 65, 66, 67, 68, 69, 70]⟩ : ByteArray).extract ((Int.tmod x0 x1) : Int).toNat ((IntKind.u64.wrap ((Int.tmod x0 x1) + 1)) : Int).toNat) ++ x7)) else (none)) else (none)) else (none)) else (none))) else (some x7))
def salvorref1_digits.f (k : Nat) (a0 : Int) (a1 : Int) (a2 : Int) : Option (ByteArray) := salvorref1_digits.l0 k a0 a1 a2 (⟨#[]⟩ : ByteArray)
theorem salvorref1_digits.mono_l : ∀ k, (∀ y0 y1 y2 y3, LeO (salvorref1_digits.l0 k y0 y1 y2 y3) (salvorref1_digits.l0 (k + 1) y0 y1 y2 y3))
 | 0 => fun _ _ _ _ r h => by simp [salvorref1_digits.l0] at h
 | k + 1 => by
  have ih0 := salvorref1_digits.mono_l k
  ·intro y0 y1 y2 y3
   unfold salvorref1_digits.l0
   repeat' first
   | (with_reducible exact ih0 _ _ _ _)
   | (with_reducible exact LeO.refl _)
   | (with_reducible exact LeO.none _)
   | (with_reducible refine LeO.ite ?_ ?_)
   | (with_reducible refine LeO.bind ?_ (fun _ => ?_))
   | exact ih0 _ _ _ _
   | exact LeO.none _
   | refine LeO.ite ?_ ?_
   | refine LeO.bind ?_ (fun _ => ?_)
theorem salvorref1_digits.mono : ∀ a0 a1 a2 k, LeO (salvorref1_digits.f k a0 a1 a2) (salvorref1_digits.f (k + 1) a0 a1 a2) := by
 intro a0 a1 a2 k
 have ih0 := salvorref1_digits.mono_l k
 unfold salvorref1_digits.f
 repeat' first
   | (with_reducible exact ih0 _ _ _ _)
   | (with_reducible exact LeO.refl _)
   | (with_reducible exact LeO.none _)
   | (with_reducible refine LeO.ite ?_ ?_)
   | (with_reducible refine LeO.bind ?_ (fun _ => ?_))
   | exact ih0 _ _ _ _
   | exact LeO.none _
   | refine LeO.ite ?_ ?_
   | refine LeO.bind ?_ (fun _ => ?_)
set_option maxHeartbeats 8000000 in
set_option maxRecDepth 100000 in
theorem salvorref1_digits.calls (k : Nat) (a0 : Int) (a1 : Int) (a2 : Int) (r : ByteArray) (w : World) (h : salvorref1_digits.f k a0 a1 a2 = some r) :
  Calls Tryd.prog 47 #[.int .u64 a0, .int .u64 a1, .int .i64 a2] w fun e w' => e = .returned (.string r) ∧ Drawn0 w w' := by
 have H : (salvorref1_digits.l0 k a0 a1 a2 (⟨#[]⟩ : ByteArray)) = some r := h
 clear h
 have H' := Aside0.mk H
 clear H
 go_enter Tryd.func47, Tryd.ntmps47
 go_wp2
 go_loopg [0, 7] k (fun kq v0 v7 w' => ∃ (x0_1 : Int) (x7_1 : ByteArray), v0 = .int .u64 x0_1 ∧ v7 = .string x7_1 ∧ Aside0 (salvorref1_digits.l0 kq x0_1 a1 a2 x7_1 = some r) ∧ Aside0 (kq ≤ k) ∧ Drawn0 w w')
 case atStart => exact ⟨(a0), ((⟨#[]⟩ : ByteArray)), (by first | rfl | (simp; done) | (simp [*]; done)), (by first | rfl | (simp; done) | (simp [*]; done)), H', ⟨Nat.le_refl _⟩, by repeat (first | exact Drawn0.refl _ | apply Drawn0.step)⟩
 case round =>
  clear H'
  try clear p2
  obtain ⟨x0_1, x7_1, rfl, rfl, HA, HK1, ⟨m1, rfl⟩⟩ := hrel
  cases gk with
  | zero => exact absurd HA.out (by simp [salvorref1_digits.l0])
  | succ k1 =>
   have H := HA.out
   clear HA
   simp only [salvorref1_digits.l0] at H
   by_cases c4 : x0_1 > 0
   ·rw [if_pos c4] at H
    have c4b0 : decide (0 < x0_1) = true := decide_eq_true c4
    clear c4
    by_cases c5 : a1 = 0
    ·rw [if_pos c5] at H
     exact absurd H (by simp)
    ·rw [if_neg c5] at H
     have c5b0 : (a1 == 0) = false := beq_eq_false_iff_ne.mpr c5
     have c5b1 : (a1 != 0) = true := bne_iff_ne.mpr c5
     obtain ⟨ji6, hji6⟩ : ∃ j_ : Int, (Int.tmod x0_1 a1) = j_ := ⟨_, rfl⟩
     replace H : (if 0 ≤ (ji6) then (if (ji6) ≤ (IntKind.u64.wrap ((ji6) + 1)) then (if (IntKind.u64.wrap ((ji6) + 1)) ≤ 16 then (if ((⟨#[48, 49, 50, 51, 52, 53, 54, 55, 56, 57, 65, 66, 67, 68, 69, 70]⟩ : ByteArray).extract ((ji6) : Int).toNat ((IntKind.u64.wrap ((ji6) + 1)) : Int).toNat).size + x7_1.size ≤ 9223372036854775807 then (salvorref1_digits.l0 k1 (IntKind.u64.wrap (Int.tdiv x0_1 a1)) a1 a2 (((⟨#[48, 49, 50, 51, 52, 53, 54, 55, 56, 57, 65, 66, 67, 68, 69, 70]⟩ : ByteArray).extract ((ji6) : Int).toNat ((IntKind.u64.wrap ((ji6) + 1)) : Int).toNat) ++ x7_1)) else (none)) else (none)) else (none)) else (none)) = some r := by first | (rw [hji6] at H; exact H) | (simp only [hji6] at H ⊢; exact H)
     by_cases c7 : 0 ≤ (ji6)
     ·rw [if_pos c7] at H
      have c7b0 := eq_true c7
      have c7b1 : decide (0 ≤ (ji6)) = true := decide_eq_true c7
      clear c7
      by_cases c8 : (ji6) ≤ (IntKind.u64.wrap ((ji6) + 1))
      ·rw [if_pos c8] at H
       have c8b0 := eq_true c8
       have c8b1 : decide ((ji6) ≤ (IntKind.u64.wrap ((ji6) + 1))) = true := decide_eq_true c8
       by_cases c9 : (IntKind.u64.wrap ((ji6) + 1)) ≤ 16
       ·rw [if_pos c9] at H
        have c9b0 := eq_true c9
        have c9b1 : decide ((IntKind.u64.wrap ((ji6) + 1)) ≤ 16) = true := decide_eq_true c9
        by_cases c10 : ((⟨#[48, 49, 50, 51, 52, 53, 54, 55, 56, 57, 65, 66, 67, 68, 69, 70]⟩ : ByteArray).extract ((ji6) : Int).toNat ((IntKind.u64.wrap ((ji6) + 1)) : Int).toNat).size + x7_1.size ≤ 9223372036854775807
        ·rw [if_pos c10] at H
         have c10b0 := eq_true c10
         have c10b1 : decide (((⟨#[48, 49, 50, 51, 52, 53, 54, 55, 56, 57, 65, 66, 67, 68, 69, 70]⟩ : ByteArray).extract ((ji6) : Int).toNat ((IntKind.u64.wrap ((ji6) + 1)) : Int).toNat).size + x7_1.size ≤ 9223372036854775807) = true := decide_eq_true c10
         try have c10b2 : (9223372036854775807 < ((⟨#[48, 49, 50, 51, 52, 53, 54, 55, 56, 57, 65, 66, 67, 68, 69, 70]⟩ : ByteArray).extract ((ji6) : Int).toNat ((IntKind.u64.wrap ((ji6) + 1)) : Int).toNat).size + x7_1.size) = False := eq_false (Nat.not_lt.2 c10)
         have H' := Aside0.mk H
         clear H
         go_wp2
         go_roundg k1
         case measure => have := HK1.out; omega
         case rel => exact ⟨(IntKind.u64.wrap (Int.tdiv x0_1 a1)), (((⟨#[48, 49, 50, 51, 52, 53, 54, 55, 56, 57, 65, 66, 67, 68, 69, 70]⟩ : ByteArray).extract ((ji6) : Int).toNat ((IntKind.u64.wrap ((ji6) + 1)) : Int).toNat) ++ x7_1), (by first | rfl | (simp; done) | (simp [*]; done)), (by first | rfl | (simp; done) | (simp only [← hji6] <;> (first | rfl | simp)) | (simp [*]; done)), H', ⟨by have := HK1.out; omega⟩, by repeat (first | exact Drawn0.refl _ | apply Drawn0.step)⟩
        ·rw [if_neg c10] at H
         exact absurd H (by simp)
       ·rw [if_neg c9] at H
        exact absurd H (by simp)
      ·rw [if_neg c8] at H
       exact absurd H (by simp)
     ·rw [if_neg c7] at H
      exact absurd H (by simp)
   ·rw [if_neg c4] at H
    have c4b0 : decide (0 < x0_1) = false := decide_eq_false c4
    clear c4
    by_cases c11 : (x7_1.size : Int) < a2
    ·rw [if_pos c11] at H
     have c11b0 : decide ((x7_1.size : Int) < a2) = true := decide_eq_true c11
     clear c11
     by_cases c12 : a1 = 0
     ·rw [if_pos c12] at H
      exact absurd H (by simp)
     ·rw [if_neg c12] at H
      have c12b0 : (a1 == 0) = false := beq_eq_false_iff_ne.mpr c12
      have c12b1 : (a1 != 0) = true := bne_iff_ne.mpr c12
      obtain ⟨ji13, hji13⟩ : ∃ j_ : Int, (Int.tmod x0_1 a1) = j_ := ⟨_, rfl⟩
      replace H : (if 0 ≤ (ji13) then (if (ji13) ≤ (IntKind.u64.wrap ((ji13) + 1)) then (if (IntKind.u64.wrap ((ji13) + 1)) ≤ 16 then (if ((⟨#[48, 49, 50, 51, 52, 53, 54, 55, 56, 57, 65, 66, 67, 68, 69, 70]⟩ : ByteArray).extract ((ji13) : Int).toNat ((IntKind.u64.wrap ((ji13) + 1)) : Int).toNat).size + x7_1.size ≤ 9223372036854775807 then (salvorref1_digits.l0 k1 (IntKind.u64.wrap (Int.tdiv x0_1 a1)) a1 a2 (((⟨#[48, 49, 50, 51, 52, 53, 54, 55, 56, 57, 65, 66, 67, 68, 69, 70]⟩ : ByteArray).extract ((ji13) : Int).toNat ((IntKind.u64.wrap ((ji13) + 1)) : Int).toNat) ++ x7_1)) else (none)) else (none)) else (none)) else (none)) = some r := by first | (rw [hji13] at H; exact H) | (simp only [hji13] at H ⊢; exact H)
      by_cases c14 : 0 ≤ (ji13)
      ·rw [if_pos c14] at H
       have c14b0 := eq_true c14
       have c14b1 : decide (0 ≤ (ji13)) = true := decide_eq_true c14
       clear c14
       by_cases c15 : (ji13) ≤ (IntKind.u64.wrap ((ji13) + 1))
       ·rw [if_pos c15] at H
        have c15b0 := eq_true c15
        have c15b1 : decide ((ji13) ≤ (IntKind.u64.wrap ((ji13) + 1))) = true := decide_eq_true c15
        by_cases c16 : (IntKind.u64.wrap ((ji13) + 1)) ≤ 16
        ·rw [if_pos c16] at H
         have c16b0 := eq_true c16
         have c16b1 : decide ((IntKind.u64.wrap ((ji13) + 1)) ≤ 16) = true := decide_eq_true c16
         by_cases c17 : ((⟨#[48, 49, 50, 51, 52, 53, 54, 55, 56, 57, 65, 66, 67, 68, 69, 70]⟩ : ByteArray).extract ((ji13) : Int).toNat ((IntKind.u64.wrap ((ji13) + 1)) : Int).toNat).size + x7_1.size ≤ 9223372036854775807
         ·rw [if_pos c17] at H
          have c17b0 := eq_true c17
          have c17b1 : decide (((⟨#[48, 49, 50, 51, 52, 53, 54, 55, 56, 57, 65, 66, 67, 68, 69, 70]⟩ : ByteArray).extract ((ji13) : Int).toNat ((IntKind.u64.wrap ((ji13) + 1)) : Int).toNat).size + x7_1.size ≤ 9223372036854775807) = true := decide_eq_true c17
          try have c17b2 : (9223372036854775807 < ((⟨#[48, 49, 50, 51, 52, 53, 54, 55, 56, 57, 65, 66, 67, 68, 69, 70]⟩ : ByteArray).extract ((ji13) : Int).toNat ((IntKind.u64.wrap ((ji13) + 1)) : Int).toNat).size + x7_1.size) = False := eq_false (Nat.not_lt.2 c17)
          have H' := Aside0.mk H
          clear H
          go_wp2
          go_roundg k1
          case measure => have := HK1.out; omega
          case rel => exact ⟨(IntKind.u64.wrap (Int.tdiv x0_1 a1)), (((⟨#[48, 49, 50, 51, 52, 53, 54, 55, 56, 57, 65, 66, 67, 68, 69, 70]⟩ : ByteArray).extract ((ji13) : Int).toNat ((IntKind.u64.wrap ((ji13) + 1)) : Int).toNat) ++ x7_1), (by first | rfl | (simp; done) | (simp [*]; done)), (by first | rfl | (simp; done) | (simp only [← hji13] <;> (first | rfl | simp)) | (simp [*]; done)), H', ⟨by have := HK1.out; omega⟩, by repeat (first | exact Drawn0.refl _ | apply Drawn0.step)⟩
         ·rw [if_neg c17] at H
          exact absurd H (by simp)
        ·rw [if_neg c16] at H
         exact absurd H (by simp)
       ·rw [if_neg c15] at H
        exact absurd H (by simp)
      ·rw [if_neg c14] at H
       exact absurd H (by simp)
    ·rw [if_neg c11] at H
     have c11b0 : decide ((x7_1.size : Int) < a2) = false := decide_eq_false c11
     clear c11
     obtain rfl := Option.some.inj H
     go_wp2
     go_ret
     exact ⟨by first | rfl | (simp; done) | (simp [*]; done), by repeat (first | exact Drawn0.refl _ | apply Drawn0.step)⟩

/-! ### salvorref1_Dec: function 34 -/
def salvorref1_Dec.f (k : Nat) (a0 : Int) : Option (ByteArray) := if a0 < 0 then ((salvorref1_digits.f k (IntKind.u64.wrap ((IntKind.u64.wrap (wrap64 (-(wrap64 (a0 + 1))))) + 1)) 10 1).bind fun t255 => (if 1 + t255.size ≤ 9223372036854775807 then (some ((⟨#[45]⟩ : ByteArray) ++ t255)) else (none))) else ((salvorref1_digits.f k (IntKind.u64.wrap (a0)) 10 1).bind fun t256 => (some t256))
theorem salvorref1_Dec.mono : ∀ a0 k, LeO (salvorref1_Dec.f k a0) (salvorref1_Dec.f (k + 1) a0) := by
  intro a0 k
  unfold salvorref1_Dec.f
  repeat' first
      | (with_reducible exact salvorref1_digits.mono _ _ _ _)
      | (with_reducible exact LeO.refl _)
      | (with_reducible exact LeO.none _)
      | (with_reducible refine LeO.ite ?_ ?_)
      | (with_reducible refine LeO.bind ?_ (fun _ => ?_))
      | exact salvorref1_digits.mono _ _ _ _
      | exact LeO.none _
      | refine LeO.ite ?_ ?_
      | refine LeO.bind ?_ (fun _ => ?_)
set_option maxHeartbeats 8000000 in
set_option maxRecDepth 100000 in
theorem salvorref1_Dec.calls (k : Nat) (a0 : Int) (r : ByteArray) (w : World) (h : salvorref1_Dec.f k a0 = some r) :
    Calls Tryd.prog 34 #[.int .i64 a0] w fun e w' => e = .returned (.string r) ∧ Drawn0 w w' := by
  have H : (if a0 < 0 then ((salvorref1_digits.f k (IntKind.u64.wrap ((IntKind.u64.wrap (wrap64 (-(wrap64 (a0 + 1))))) + 1)) 10 1).bind fun t255 => (if 1 + t255.size ≤ 9223372036854775807 then (some ((⟨#[45]⟩ : ByteArray) ++ t255)) else (none))) else ((salvorref1_digits.f k (IntKind.u64.wrap (a0)) 10 1).bind fun t256 => (some t256))) = some r := h
  clear h
  by_cases c2 : a0 < 0
  · rw [if_pos c2] at H
    have c2b0 : decide (a0 < 0) = true := decide_eq_true c2
    clear c2
    replace H := Option.bind_eq_some_iff.mp H
    obtain ⟨t255, A30, H⟩ := H
    replace H : (if 1 + t255.size ≤ 9223372036854775807 then (some ((⟨#[45]⟩ : ByteArray) ++ t255)) else (none)) = some r := H
    have A3 := Aside0.mk A30
    clear A30
    by_cases c4 : 1 + t255.size ≤ 9223372036854775807
    · rw [if_pos c4] at H
      have c4b0 := eq_true c4
      have c4b1 : decide (1 + t255.size ≤ 9223372036854775807) = true := decide_eq_true c4
      try have c4b2 : (9223372036854775807 < 1 + t255.size) = False := eq_false (Nat.not_lt.2 c4)
      obtain rfl := Option.some.inj H
      go_enter Tryd.func34, Tryd.ntmps34
      go_wp2_with (first | ((with_reducible refine gate_callee (f := 47) rfl ?_); refine gl_ (some 10) rfl rfl Tryd.func47 (by kernel_rfl) rfl #[.int .u64 (IntKind.u64.wrap ((IntKind.u64.wrap (wrap64 (-(wrap64 (a0 + 1))))) + 1)), .int .u64 10, .int .i64 1] rfl ?_; (with_reducible refine (salvorref1_digits.calls k (IntKind.u64.wrap ((IntKind.u64.wrap (wrap64 (-(wrap64 (a0 + 1))))) + 1)) 10 1 t255 _ A3.out).mono ?_); rintro e w' ⟨rfl, ⟨nd, rfl⟩⟩; refine ⟨_, rfl, ?_⟩))
      go_ret
      exact ⟨by first | rfl | (simp; done) | (simp [*]; done), by repeat (first | exact Drawn0.refl _ | apply Drawn0.step)⟩
    · rw [if_neg c4] at H
      exact absurd H (by simp)
  · rw [if_neg c2] at H
    have c2b0 : decide (a0 < 0) = false := decide_eq_false c2
    clear c2
    replace H := Option.bind_eq_some_iff.mp H
    obtain ⟨t256, A50, H⟩ := H
    replace H : (some t256) = some r := H
    have A5 := Aside0.mk A50
    clear A50
    obtain rfl := Option.some.inj H
    go_enter Tryd.func34, Tryd.ntmps34
    go_wp2_with (first | ((with_reducible refine gate_callee (f := 47) rfl ?_); refine gl_ (some 14) rfl rfl Tryd.func47 (by kernel_rfl) rfl #[.int .u64 (IntKind.u64.wrap (a0)), .int .u64 10, .int .i64 1] rfl ?_; (with_reducible refine (salvorref1_digits.calls k (IntKind.u64.wrap (a0)) 10 1 t256 _ A5.out).mono ?_); rintro e w' ⟨rfl, ⟨nd, rfl⟩⟩; refine ⟨_, rfl, ?_⟩))
    go_ret
    exact ⟨by first | rfl | (simp; done) | (simp [*]; done), by repeat (first | exact Drawn0.refl _ | apply Drawn0.step)⟩

/-! ### salvorkeep_Num: function 17 -/
def salvorkeep_Num.f (k : Nat) (a0 : Int) : Option (ByteArray) := (salvorref1_Dec.f k a0).bind fun t257 => (some t257)
theorem salvorkeep_Num.mono : ∀ a0 k, LeO (salvorkeep_Num.f k a0) (salvorkeep_Num.f (k + 1) a0) := by
  intro a0 k
  unfold salvorkeep_Num.f
  repeat' first
      | (with_reducible exact salvorref1_Dec.mono _ _)
      | (with_reducible exact LeO.refl _)
      | (with_reducible exact LeO.none _)
      | (with_reducible refine LeO.ite ?_ ?_)
      | (with_reducible refine LeO.bind ?_ (fun _ => ?_))
      | exact salvorref1_Dec.mono _ _
      | exact LeO.none _
      | refine LeO.ite ?_ ?_
      | refine LeO.bind ?_ (fun _ => ?_)
set_option maxHeartbeats 8000000 in
set_option maxRecDepth 100000 in
theorem salvorkeep_Num.calls (k : Nat) (a0 : Int) (r : ByteArray) (w : World) (h : salvorkeep_Num.f k a0 = some r) :
    Calls Tryd.prog 17 #[.int .i64 a0] w fun e w' => e = .returned (.string r) ∧ Drawn0 w w' := by
  have H : ((salvorref1_Dec.f k a0).bind fun t257 => (some t257)) = some r := h
  clear h
  replace H := Option.bind_eq_some_iff.mp H
  obtain ⟨t257, A20, H⟩ := H
  replace H : (some t257) = some r := H
  have A2 := Aside0.mk A20
  clear A20
  obtain rfl := Option.some.inj H
  go_enter Tryd.func17, Tryd.ntmps17
  go_wp2_with (first | ((with_reducible refine gate_callee (f := 34) rfl ?_); refine gl_ (some 4) rfl rfl Tryd.func34 (by kernel_rfl) rfl #[.int .i64 a0] rfl ?_; (with_reducible refine (salvorref1_Dec.calls k a0 t257 _ A2.out).mono ?_); rintro e w' ⟨rfl, ⟨nd, rfl⟩⟩; refine ⟨_, rfl, ?_⟩))
  go_ret
  exact ⟨by first | rfl | (simp; done) | (simp [*]; done), by repeat (first | exact Drawn0.refl _ | apply Drawn0.step)⟩

/-! ### salvorkeep_words: function 18 -/
def salvorkeep_words.f  : Option (List ByteArray) := some (([(⟨#[115, 119, 97, 98]⟩ : ByteArray), (⟨#[98, 108, 111, 99, 107]⟩ : ByteArray), (⟨#[117, 110, 98, 108, 111, 99, 107]⟩ : ByteArray), (⟨#[108, 99, 97, 115, 101]⟩ : ByteArray), (⟨#[117, 99, 97, 115, 101]⟩ : ByteArray), (⟨#[97, 115, 99, 105, 105]⟩ : ByteArray), (⟨#[101, 98, 99, 100, 105, 99]⟩ : ByteArray), (⟨#[105, 98, 109]⟩ : ByteArray), (⟨#[115, 121, 110, 99]⟩ : ByteArray), (⟨#[110, 111, 101, 114, 114, 111, 114]⟩ : ByteArray), (⟨#[110, 111, 116, 114, 117, 110, 99]⟩ : ByteArray), (⟨#[115, 112, 97, 114, 115, 101]⟩ : ByteArray), (⟨#[102, 115, 121, 110, 99]⟩ : ByteArray), (⟨#[101, 120, 99, 108]⟩ : ByteArray), (⟨#[110, 111, 99, 114, 101, 97, 116]⟩ : ByteArray)] : List ByteArray))
set_option maxHeartbeats 8000000 in
set_option maxRecDepth 100000 in
theorem salvorkeep_words.calls  (r : List ByteArray) (w : World) (h : salvorkeep_words.f  = some r) :
  Calls Tryd.prog 18 #[] w fun e w' => ∃ v0_ : Value, e = .returned (v0_) ∧ Kd.R Kd.string 9 w' w.heap.size (fun _ => True) v0_ r ∧ Below w.heap.size w w' := by
 have HB := Aside0.mk (Below.refl w.heap.size w)
 have H : (some (([(⟨#[115, 119, 97, 98]⟩ : ByteArray), (⟨#[98, 108, 111, 99, 107]⟩ : ByteArray), (⟨#[117, 110, 98, 108, 111, 99, 107]⟩ : ByteArray), (⟨#[108, 99, 97, 115, 101]⟩ : ByteArray), (⟨#[117, 99, 97, 115, 101]⟩ : ByteArray), (⟨#[97, 115, 99, 105, 105]⟩ : ByteArray), (⟨#[101, 98, 99, 100, 105, 99]⟩ : ByteArray), (⟨#[105, 98, 109]⟩ : ByteArray), (⟨#[115, 121, 110, 99]⟩ : ByteArray), (⟨#[110, 111, 101, 114, 114, 111, 114]⟩ : ByteArray), (⟨#[110, 111, 116, 114, 117, 110, 99]⟩ : ByteArray), (⟨#[115, 112, 97, 114, 115, 101]⟩ : ByteArray), (⟨#[102, 115, 121, 110, 99]⟩ : ByteArray), (⟨#[101, 120, 99, 108]⟩ : ByteArray), (⟨#[110, 111, 99, 114, 101, 97, 116]⟩ : ByteArray)] : List ByteArray))) = some r := h
 clear h
 obtain ⟨y258, hy258⟩ : ∃ y_ : List ByteArray, y_ = (([(⟨#[115, 119, 97, 98]⟩ : ByteArray), (⟨#[98, 108, 111, 99, 107]⟩ : ByteArray), (⟨#[117, 110, 98, 108, 111, 99, 107]⟩ : ByteArray), (⟨#[108, 99, 97, 115, 101]⟩ : ByteArray), (⟨#[117, 99, 97, 115, 101]⟩ : ByteArray), (⟨#[97, 115, 99, 105, 105]⟩ : ByteArray), (⟨#[101, 98, 99, 100, 105, 99]⟩ : ByteArray), (⟨#[105, 98, 109]⟩ : ByteArray), (⟨#[115, 121, 110, 99]⟩ : ByteArray), (⟨#[110, 111, 101, 114, 114, 111, 114]⟩ : ByteArray), (⟨#[110, 111, 116, 114, 117, 110, 99]⟩ : ByteArray), (⟨#[115, 112, 97, 114, 115, 101]⟩ : ByteArray), (⟨#[102, 115, 121, 110, 99]⟩ : ByteArray), (⟨#[101, 120, 99, 108]⟩ : ByteArray), (⟨#[110, 111, 99, 114, 101, 97, 116]⟩ : ByteArray)] : List ByteArray)) := ⟨_, rfl⟩
 replace H : (some y258) = some r := by first | (rw [hy258]; with_reducible exact H) | (have H2_ := (Option.bind_some _ _).symm.trans H; rw [hy258]; with_reducible exact H2_) | (have H2_ := (Option.bind_some _ _).symm.trans H; with_reducible exact H2_) | with_reducible exact H | (rw [hy258]; exact H) | exact H
 have Ny258 := Aside0.mk hy258
 clear hy258
 obtain rfl := Option.some.inj H
 go_enter Tryd.func18, Tryd.ntmps18
 go_wp2_with (first | ((with_reducible refine gate_dst (N := 1) rfl ?_); refine Kd.R_lit Kd.string _ 9 ?hg (N := 1) ?hd (xs := ([(⟨#[115, 119, 97, 98]⟩ : ByteArray), (⟨#[98, 108, 111, 99, 107]⟩ : ByteArray), (⟨#[117, 110, 98, 108, 111, 99, 107]⟩ : ByteArray), (⟨#[108, 99, 97, 115, 101]⟩ : ByteArray), (⟨#[117, 99, 97, 115, 101]⟩ : ByteArray), (⟨#[97, 115, 99, 105, 105]⟩ : ByteArray), (⟨#[101, 98, 99, 100, 105, 99]⟩ : ByteArray), (⟨#[105, 98, 109]⟩ : ByteArray), (⟨#[115, 121, 110, 99]⟩ : ByteArray), (⟨#[110, 111, 101, 114, 114, 111, 114]⟩ : ByteArray), (⟨#[110, 111, 116, 114, 117, 110, 99]⟩ : ByteArray), (⟨#[115, 112, 97, 114, 115, 101]⟩ : ByteArray), (⟨#[102, 115, 121, 110, 99]⟩ : ByteArray), (⟨#[101, 120, 99, 108]⟩ : ByteArray), (⟨#[110, 111, 99, 114, 101, 97, 116]⟩ : ByteArray)] : List ByteArray)) (inner := [.string (⟨#[115, 119, 97, 98]⟩ : ByteArray), .string (⟨#[98, 108, 111, 99, 107]⟩ : ByteArray), .string (⟨#[117, 110, 98, 108, 111, 99, 107]⟩ : ByteArray), .string (⟨#[108, 99, 97, 115, 101]⟩ : ByteArray), .string (⟨#[117, 99, 97, 115, 101]⟩ : ByteArray), .string (⟨#[97, 115, 99, 105, 105]⟩ : ByteArray), .string (⟨#[101, 98, 99, 100, 105, 99]⟩ : ByteArray), .string (⟨#[105, 98, 109]⟩ : ByteArray), .string (⟨#[115, 121, 110, 99]⟩ : ByteArray), .string (⟨#[110, 111, 101, 114, 114, 111, 114]⟩ : ByteArray), .string (⟨#[110, 111, 116, 114, 117, 110, 99]⟩ : ByteArray), .string (⟨#[115, 112, 97, 114, 115, 101]⟩ : ByteArray), .string (⟨#[102, 115, 121, 110, 99]⟩ : ByteArray), .string (⟨#[101, 120, 99, 108]⟩ : ByteArray), .string (⟨#[110, 111, 99, 114, 101, 97, 116]⟩ : ByteArray)]) (ok := fun _ => True) (okp := fun _ => True) ?hr ?hp (fun _ hk => hk) trivial (Below.refl _ _) (Nat.le_refl _) (by simp) ?_; (case hd => rfl); (case hg => rfl); (case hr => first | (go_simp; done) | (go_simp; rfl)); (case hp => exact (Reps.one (show Kd.M Kd.string _ _ _ (⟨#[115, 119, 97, 98]⟩ : ByteArray) [.string (⟨#[115, 119, 97, 98]⟩ : ByteArray)] from rfl) (Reps.one (show Kd.M Kd.string _ _ _ (⟨#[98, 108, 111, 99, 107]⟩ : ByteArray) [.string (⟨#[98, 108, 111, 99, 107]⟩ : ByteArray)] from rfl) (Reps.one (show Kd.M Kd.string _ _ _ (⟨#[117, 110, 98, 108, 111, 99, 107]⟩ : ByteArray) [.string (⟨#[117, 110, 98, 108, 111, 99, 107]⟩ : ByteArray)] from rfl) (Reps.one (show Kd.M Kd.string _ _ _ (⟨#[108, 99, 97, 115, 101]⟩ : ByteArray) [.string (⟨#[108, 99, 97, 115, 101]⟩ : ByteArray)] from rfl) (Reps.one (show Kd.M Kd.string _ _ _ (⟨#[117, 99, 97, 115, 101]⟩ : ByteArray) [.string (⟨#[117, 99, 97, 115, 101]⟩ : ByteArray)] from rfl) (Reps.one (show Kd.M Kd.string _ _ _ (⟨#[97, 115, 99, 105, 105]⟩ : ByteArray) [.string (⟨#[97, 115, 99, 105, 105]⟩ : ByteArray)] from rfl) (Reps.one (show Kd.M Kd.string _ _ _ (⟨#[101, 98, 99, 100, 105, 99]⟩ : ByteArray) [.string (⟨#[101, 98, 99, 100, 105, 99]⟩ : ByteArray)] from rfl) (Reps.one (show Kd.M Kd.string _ _ _ (⟨#[105, 98, 109]⟩ : ByteArray) [.string (⟨#[105, 98, 109]⟩ : ByteArray)] from rfl) (Reps.one (show Kd.M Kd.string _ _ _ (⟨#[115, 121, 110, 99]⟩ : ByteArray) [.string (⟨#[115, 121, 110, 99]⟩ : ByteArray)] from rfl) (Reps.one (show Kd.M Kd.string _ _ _ (⟨#[110, 111, 101, 114, 114, 111, 114]⟩ : ByteArray) [.string (⟨#[110, 111, 101, 114, 114, 111, 114]⟩ : ByteArray)] from rfl) (Reps.one (show Kd.M Kd.string _ _ _ (⟨#[110, 111, 116, 114, 117, 110, 99]⟩ : ByteArray) [.string (⟨#[110, 111, 116, 114, 117, 110, 99]⟩ : ByteArray)] from rfl) (Reps.one (show Kd.M Kd.string _ _ _ (⟨#[115, 112, 97, 114, 115, 101]⟩ : ByteArray) [.string (⟨#[115, 112, 97, 114, 115, 101]⟩ : ByteArray)] from rfl) (Reps.one (show Kd.M Kd.string _ _ _ (⟨#[102, 115, 121, 110, 99]⟩ : ByteArray) [.string (⟨#[102, 115, 121, 110, 99]⟩ : ByteArray)] from rfl) (Reps.one (show Kd.M Kd.string _ _ _ (⟨#[101, 120, 99, 108]⟩ : ByteArray) [.string (⟨#[101, 120, 99, 108]⟩ : ByteArray)] from rfl) (Reps.one (show Kd.M Kd.string _ _ _ (⟨#[110, 111, 99, 114, 101, 97, 116]⟩ : ByteArray) [.string (⟨#[110, 111, 99, 114, 101, 97, 116]⟩ : ByteArray)] from rfl) (Reps.none _ _))))))))))))))))); intro v259 w1 ho2 hb hg_ hnew_; clear hg_ hnew_; (first | rw [← Ny258.out] at ho2 | (simp only [Int.reduceToNat] at ho2; rw [← Ny258.out] at ho2)); have HO260 := Aside0.mk (Kd.R_lower ho2 (below_size (bh_ HB))); replace HB := bs_ HB hb; clear hb ho2))
 go_ret
 exact ⟨_, by first | rfl | (simp [errW_none, errW_some] <;> rfl) | (simp [*, errW_none, errW_some] <;> rfl), by (with_reducible repeat (first | apply Kd.R_alloc | apply Kd.R_drewN | apply Kd.R_drew)); exact HO260.out, bh_ HB⟩

end Go.Proofs.YtbmhfnncagncmaaDoor.P
