/- Laid by a program of this session's own (wip/wprint.py, over the kit's print.py): functions of the given program as plain Lean functions, and that the program's calls come to their answers. -/
import Derived.Test.YtalcenfcknmchaaDoorPx0
import Derived.Test.YtalcenfcknmchaaDoorPx8
import Derived.Test.YtalcenfcknmchaaDoorPx12
import Derived.Test.YtalcenfcknmchaaDoorPx15
namespace Go.Proofs.YtalcenfcknmchaaDoor.P
open Go.RowKit Go.Proofs.YtalcenfcknmchaaDoorW.PrintWords Go.Proofs.YtalcenfcknmchaaDoorW.PrintLast Go.Proofs.YtalcenfcknmchaaDoorW.PrintMore
attribute [local go_sem] max2_int min2_int max_two min_two max_three min_three max_four min_four   -- for this text's walks alone
set_option linter.unusedVariables false
set_option linter.unusedSimpArgs false

/-! ### salvorlaw2_NumZeros: function 8 -/
def salvorlaw2_NumZeros.l0 : Nat → Int → Int → ByteArray → Int → Option (Bool)
 | 0, _, _, _, _ => none
 | k + 1, x0, x1, x5, x6 => if x6 ≤ (wrap64 (Int.tmod x1 6)) then (if 1 + x5.size ≤ 9223372036854775807 then (salvorlaw2_NumZeros.l0 k x0 x1 ((⟨#[48]⟩ : ByteArray) ++ x5) (wrap64 (x6 + 1))) else (none)) else ((num_Get.f k x5).bind fun bt262 => ((num_GetDec.f x5).bind fun bt264 => (if 2 + x5.size ≤ 9223372036854775807 then ((num_GetHex.f ((⟨#[48, 120]⟩ : ByteArray) ++ x5)).bind fun bt266 => ((num_Dec.f (wrap64 (x0))).bind fun t268 => (if 2 + t268.size ≤ 9223372036854775807 then ((num_GetHex.f ((⟨#[48, 120]⟩ : ByteArray) ++ t268)).bind fun bt269 => (if bt262.2 = true then (if bt262.1 = (wrap64 (x0)) then (if bt264.2 = true then (some false) else (if bt266.2 = true then (if bt269.2 = true then (if bt266.1 = bt269.1 then ((salvorlaw2_NumRuns.f k).bind fun t271 => (some t271)) else (some false)) else (some false)) else (some false))) else (some false)) else (some false))) else (none)))) else (none))))
def salvorlaw2_NumZeros.f (k : Nat) (a0 : Int) (a1 : Int) : Option (Bool) := (num_Dec.f (wrap64 (a0))).bind fun t261 => (salvorlaw2_NumZeros.l0 k a0 a1 t261 0)
theorem salvorlaw2_NumZeros.mono_l : ∀ k, (∀ y0 y1 y2 y3, LeO (salvorlaw2_NumZeros.l0 k y0 y1 y2 y3) (salvorlaw2_NumZeros.l0 (k + 1) y0 y1 y2 y3))
 | 0 => fun _ _ _ _ r h => by simp [salvorlaw2_NumZeros.l0] at h
 | k + 1 => by
  have ih0 := salvorlaw2_NumZeros.mono_l k
  ·intro y0 y1 y2 y3
   unfold salvorlaw2_NumZeros.l0
   repeat' first
   | (with_reducible exact ih0 _ _ _ _)
   | (with_reducible exact num_Get.mono _ _)
   | (with_reducible exact salvorlaw2_NumRuns.mono _)
   | (with_reducible exact LeO.refl _)
   | (with_reducible exact LeO.none _)
   | (with_reducible refine LeO.ite ?_ ?_)
   | (with_reducible refine LeO.bind ?_ (fun _ => ?_))
   | exact ih0 _ _ _ _
   | exact num_Get.mono _ _
   | exact salvorlaw2_NumRuns.mono _
   | exact LeO.none _
   | refine LeO.ite ?_ ?_
   | refine LeO.bind ?_ (fun _ => ?_)
theorem salvorlaw2_NumZeros.mono : ∀ a0 a1 k, LeO (salvorlaw2_NumZeros.f k a0 a1) (salvorlaw2_NumZeros.f (k + 1) a0 a1) := by
 intro a0 a1 k
 have ih0 := salvorlaw2_NumZeros.mono_l k
 unfold salvorlaw2_NumZeros.f
 repeat' first
   | (with_reducible exact ih0 _ _ _ _)
   | (with_reducible exact num_Get.mono _ _)
   | (with_reducible exact salvorlaw2_NumRuns.mono _)
   | (with_reducible exact LeO.refl _)
   | (with_reducible exact LeO.none _)
   | (with_reducible refine LeO.ite ?_ ?_)
   | (with_reducible refine LeO.bind ?_ (fun _ => ?_))
   | exact ih0 _ _ _ _
   | exact num_Get.mono _ _
   | exact salvorlaw2_NumRuns.mono _
   | exact LeO.none _
   | refine LeO.ite ?_ ?_
   | refine LeO.bind ?_ (fun _ => ?_)
set_option maxHeartbeats 8000000 in
set_option maxRecDepth 100000 in
theorem salvorlaw2_NumZeros.calls (k : Nat) (a0 : Int) (a1 : Int) (r : Bool) (w : World) (h : salvorlaw2_NumZeros.f k a0 a1 = some r) (htab : TabAt w) (hrt : r = true) :
  Calls Tryd.prog 8 #[.int .u32 a0, .int .u8 a1] w fun e w' => e = .returned (.bool r) ∧ Below w.heap.size w w' := by
 have HT := Aside0.mk hrt
 clear hrt
 have HTAB := Aside0.mk htab
 clear htab
 have HB := Aside0.mk (Below.refl w.heap.size w)
 have H : ((num_Dec.f (wrap64 (a0))).bind fun t261 => (salvorlaw2_NumZeros.l0 k a0 a1 t261 0)) = some r := h
 clear h
 replace H := Option.bind_eq_some_iff.mp H
 obtain ⟨t261, A30, H⟩ := H
 replace H : (salvorlaw2_NumZeros.l0 k a0 a1 t261 0) = some r := H
 have A3 := Aside0.mk A30
 clear A30
 have H' := Aside0.mk H
 clear H
 go_enter Tryd.func8, Tryd.ntmps8
 go_wp2_with (first | ((with_reducible refine gate_callee (f := 12) rfl ?_); refine gl_ (some 17) rfl rfl Tryd.func12 (by kernel_rfl) rfl #[.int .i64 (wrap64 (a0))] rfl ?_; (with_reducible refine (num_Dec.calls (wrap64 (a0)) t261 _ A3.out ?tb0_).mono ?_); (case tb0_ => exact tb_ HTAB HB); rintro e w4 ⟨rfl, hb⟩; refine ⟨_, rfl, ?_⟩; replace HB := bs_ HB hb; (try clear hb)))
 go_loopg [5, 6] k (fun kq v5 v6 w' => ∃ (x5_1 : ByteArray) (x6_1 : Int), v5 = .string x5_1 ∧ v6 = .int .i64 x6_1 ∧ Aside0 (salvorlaw2_NumZeros.l0 kq a0 a1 x5_1 x6_1 = some r) ∧ Aside0 (kq ≤ k) ∧ Aside0 (Below w.heap.size w w'))
 case atStart => exact ⟨(t261), (0), (by first | rfl | (simp; done) | (simp [*]; done)), (by first | rfl | (simp; done) | (simp [*]; done)), H', ⟨Nat.le_refl _⟩, ⟨bh_ HB⟩⟩
 case round =>
  clear H'
  try clear c1
  try clear p2
  obtain ⟨x5_1, x6_1, rfl, rfl, HA, HK1, HB⟩ := hrel
  cases gk with
  | zero => exact absurd HA.out (by simp [salvorlaw2_NumZeros.l0])
  | succ k1 =>
   have H := HA.out
   clear HA
   simp only [salvorlaw2_NumZeros.l0] at H
   by_cases c5 : x6_1 ≤ (wrap64 (Int.tmod a1 6))
   ·rw [if_pos c5] at H
    have c5b0 : decide (x6_1 ≤ (wrap64 (Int.tmod a1 6))) = true := decide_eq_true c5
    clear c5
    by_cases c6 : 1 + x5_1.size ≤ 9223372036854775807
    ·rw [if_pos c6] at H
     have c6b0 := eq_true c6
     have c6b1 : decide (1 + x5_1.size ≤ 9223372036854775807) = true := decide_eq_true c6
     try have c6b2 : (9223372036854775807 < 1 + x5_1.size) = False := eq_false (Nat.not_lt.2 c6)
     have H' := Aside0.mk H
     clear H
     go_wp2
     go_roundg k1
     case measure => have := HK1.out; omega
     case rel => exact ⟨((⟨#[48]⟩ : ByteArray) ++ x5_1), (wrap64 (x6_1 + 1)), (by first | rfl | (simp; done) | (simp [*]; done)), (by first | rfl | (simp; done) | (simp [*]; done)), H', ⟨by have := HK1.out; omega⟩, ⟨bh_ HB⟩⟩
    ·rw [if_neg c6] at H
     exact absurd H (by simp)
   ·rw [if_neg c5] at H
    have c5b0 : decide (x6_1 ≤ (wrap64 (Int.tmod a1 6))) = false := decide_eq_false c5
    clear c5
    replace H := Option.bind_eq_some_iff.mp H
    obtain ⟨⟨t262, t263⟩, A70, H⟩ := H
    replace H : ((num_GetDec.f x5_1).bind fun bt264 => (if 2 + x5_1.size ≤ 9223372036854775807 then ((num_GetHex.f ((⟨#[48, 120]⟩ : ByteArray) ++ x5_1)).bind fun bt266 => ((num_Dec.f (wrap64 (a0))).bind fun t268 => (if 2 + t268.size ≤ 9223372036854775807 then ((num_GetHex.f ((⟨#[48, 120]⟩ : ByteArray) ++ t268)).bind fun bt269 => (if t263 = true then (if t262 = (wrap64 (a0)) then (if bt264.2 = true then (some false) else (if bt266.2 = true then (if bt269.2 = true then (if bt266.1 = bt269.1 then ((salvorlaw2_NumRuns.f k1).bind fun t271 => (some t271)) else (some false)) else (some false)) else (some false))) else (some false)) else (some false))) else (none)))) else (none))) = some r := H
    have A7 := Aside0.mk A70
    clear A70
    replace H := Option.bind_eq_some_iff.mp H
    obtain ⟨⟨t264, t265⟩, A80, H⟩ := H
    replace H : (if 2 + x5_1.size ≤ 9223372036854775807 then ((num_GetHex.f ((⟨#[48, 120]⟩ : ByteArray) ++ x5_1)).bind fun bt266 => ((num_Dec.f (wrap64 (a0))).bind fun t268 => (if 2 + t268.size ≤ 9223372036854775807 then ((num_GetHex.f ((⟨#[48, 120]⟩ : ByteArray) ++ t268)).bind fun bt269 => (if t263 = true then (if t262 = (wrap64 (a0)) then (if t265 = true then (some false) else (if bt266.2 = true then (if bt269.2 = true then (if bt266.1 = bt269.1 then ((salvorlaw2_NumRuns.f k1).bind fun t271 => (some t271)) else (some false)) else (some false)) else (some false))) else (some false)) else (some false))) else (none)))) else (none)) = some r := H
    have A8 := Aside0.mk A80
    clear A80
    by_cases c9 : 2 + x5_1.size ≤ 9223372036854775807
    ·rw [if_pos c9] at H
     have c9b0 := eq_true c9
     have c9b1 : decide (2 + x5_1.size ≤ 9223372036854775807) = true := decide_eq_true c9
     try have c9b2 : (9223372036854775807 < 2 + x5_1.size) = False := eq_false (Nat.not_lt.2 c9)
     replace H := Option.bind_eq_some_iff.mp H
     obtain ⟨⟨t266, t267⟩, A100, H⟩ := H
     replace H : ((num_Dec.f (wrap64 (a0))).bind fun t268 => (if 2 + t268.size ≤ 9223372036854775807 then ((num_GetHex.f ((⟨#[48, 120]⟩ : ByteArray) ++ t268)).bind fun bt269 => (if t263 = true then (if t262 = (wrap64 (a0)) then (if t265 = true then (some false) else (if t267 = true then (if bt269.2 = true then (if t266 = bt269.1 then ((salvorlaw2_NumRuns.f k1).bind fun t271 => (some t271)) else (some false)) else (some false)) else (some false))) else (some false)) else (some false))) else (none))) = some r := H
     have A10 := Aside0.mk A100
     clear A100
     replace H := Option.bind_eq_some_iff.mp H
     obtain ⟨t268, A110, H⟩ := H
     replace H : (if 2 + t268.size ≤ 9223372036854775807 then ((num_GetHex.f ((⟨#[48, 120]⟩ : ByteArray) ++ t268)).bind fun bt269 => (if t263 = true then (if t262 = (wrap64 (a0)) then (if t265 = true then (some false) else (if t267 = true then (if bt269.2 = true then (if t266 = bt269.1 then ((salvorlaw2_NumRuns.f k1).bind fun t271 => (some t271)) else (some false)) else (some false)) else (some false))) else (some false)) else (some false))) else (none)) = some r := H
     have A11 := Aside0.mk A110
     clear A110
     by_cases c12 : 2 + t268.size ≤ 9223372036854775807
     ·rw [if_pos c12] at H
      have c12b0 := eq_true c12
      have c12b1 : decide (2 + t268.size ≤ 9223372036854775807) = true := decide_eq_true c12
      try have c12b2 : (9223372036854775807 < 2 + t268.size) = False := eq_false (Nat.not_lt.2 c12)
      replace H := Option.bind_eq_some_iff.mp H
      obtain ⟨⟨t269, t270⟩, A130, H⟩ := H
      replace H : (if t263 = true then (if t262 = (wrap64 (a0)) then (if t265 = true then (some false) else (if t267 = true then (if t270 = true then (if t266 = t269 then ((salvorlaw2_NumRuns.f k1).bind fun t271 => (some t271)) else (some false)) else (some false)) else (some false))) else (some false)) else (some false)) = some r := H
      have A13 := Aside0.mk A130
      clear A130
      by_cases c14 : t263 = true
      ·subst c14
       have H1 : (if t262 = (wrap64 (a0)) then (if t265 = true then (some false) else (if t267 = true then (if t270 = true then (if t266 = t269 then ((salvorlaw2_NumRuns.f k1).bind fun t271 => (some t271)) else (some false)) else (some false)) else (some false))) else (some false)) = some r := by rw [if_pos rfl] at H; exact H
       clear H
       have H := H1
       clear H1
       by_cases c15 : t262 = (wrap64 (a0))
       ·rw [if_pos c15] at H
        have c15b0 : (t262 == (wrap64 (a0))) = true := beq_iff_eq.mpr c15
        have c15b1 : (t262 != (wrap64 (a0))) = false := bne_eq_false_iff_eq.mpr c15
        clear c15
        by_cases c16 : t265 = true
        ·subst c16
         have H1 : (some false) = some r := by rw [if_pos rfl] at H; exact H
         clear H
         have H := H1
         clear H1
         exact absurd ((Option.some.inj H).trans HT.out) (by simp)
        ·replace c16 := Bool.eq_false_iff.mpr c16
         subst c16
         have H1 : (if t267 = true then (if t270 = true then (if t266 = t269 then ((salvorlaw2_NumRuns.f k1).bind fun t271 => (some t271)) else (some false)) else (some false)) else (some false)) = some r := by rw [if_neg (show ¬ (false = true) by decide)] at H; exact H
         clear H
         have H := H1
         clear H1
         by_cases c17 : t267 = true
         ·subst c17
          have H1 : (if t270 = true then (if t266 = t269 then ((salvorlaw2_NumRuns.f k1).bind fun t271 => (some t271)) else (some false)) else (some false)) = some r := by rw [if_pos rfl] at H; exact H
          clear H
          have H := H1
          clear H1
          by_cases c18 : t270 = true
          ·subst c18
           have H1 : (if t266 = t269 then ((salvorlaw2_NumRuns.f k1).bind fun t271 => (some t271)) else (some false)) = some r := by rw [if_pos rfl] at H; exact H
           clear H
           have H := H1
           clear H1
           by_cases c19 : t266 = t269
           ·rw [if_pos c19] at H
            have c19b0 : (t266 == t269) = true := beq_iff_eq.mpr c19
            have c19b1 : (t266 != t269) = false := bne_eq_false_iff_eq.mpr c19
            clear c19
            replace H := Option.bind_eq_some_iff.mp H
            obtain ⟨t271, A200, H⟩ := H
            replace H : (some t271) = some r := H
            have A20 := Aside0.mk A200
            clear A200
            obtain rfl := Option.some.inj H
            go_wp2_with (first | ((with_reducible refine gate_callee (f := 9) rfl ?_); refine gl_ (some 29) rfl rfl Tryd.func9 (by kernel_rfl) rfl #[.string x5_1] rfl ?_; (with_reducible refine (num_Get.calls k1 x5_1 t262 true _ A7.out ?tb2_).mono ?_); (case tb2_ => exact tb_ HTAB HB); rintro e w21 ⟨rfl, hb⟩; refine ⟨_, rfl, ?_⟩; replace HB := bs_ HB hb; (try clear hb)) | ((with_reducible refine gate_callee (f := 15) rfl ?_); refine gl_ (some 34) rfl rfl Tryd.func15 (by kernel_rfl) rfl #[.string x5_1] rfl ?_; (with_reducible refine (num_GetDec.calls x5_1 t264 false _ A8.out ?tb4_).mono ?_); (case tb4_ => exact tb_ HTAB HB); rintro e w22 ⟨rfl, hb⟩; refine ⟨_, rfl, ?_⟩; replace HB := bs_ HB hb; (try clear hb)) | ((with_reducible refine gate_callee (f := 10) rfl ?_); refine gl_ (some 40) rfl rfl Tryd.func10 (by kernel_rfl) rfl #[.string ((⟨#[48, 120]⟩ : ByteArray) ++ x5_1)] rfl ?_; (with_reducible refine (num_GetHex.calls ((⟨#[48, 120]⟩ : ByteArray) ++ x5_1) t266 true _ A10.out ?tb6_).mono ?_); (case tb6_ => exact tb_ HTAB HB); rintro e w23 ⟨rfl, hb⟩; refine ⟨_, rfl, ?_⟩; replace HB := bs_ HB hb; (try clear hb)) | ((with_reducible refine gate_callee (f := 12) rfl ?_); refine gl_ (some 46) rfl rfl Tryd.func12 (by kernel_rfl) rfl #[.int .i64 (wrap64 (a0))] rfl ?_; (with_reducible refine (num_Dec.calls (wrap64 (a0)) t268 _ A11.out ?tb8_).mono ?_); (case tb8_ => exact tb_ HTAB HB); rintro e w24 ⟨rfl, hb⟩; refine ⟨_, rfl, ?_⟩; replace HB := bs_ HB hb; (try clear hb)) | ((with_reducible refine gate_callee (f := 10) rfl ?_); refine gl_ (some 48) rfl rfl Tryd.func10 (by kernel_rfl) rfl #[.string ((⟨#[48, 120]⟩ : ByteArray) ++ t268)] rfl ?_; (with_reducible refine (num_GetHex.calls ((⟨#[48, 120]⟩ : ByteArray) ++ t268) t269 true _ A13.out ?tb10_).mono ?_); (case tb10_ => exact tb_ HTAB HB); rintro e w25 ⟨rfl, hb⟩; refine ⟨_, rfl, ?_⟩; replace HB := bs_ HB hb; (try clear hb)) | (go_at_call 3; (with_reducible refine (salvorlaw2_NumRuns.calls k1  t271 _ A20.out ?tb12_).mono ?_); (case tb12_ => exact tb_ HTAB HB); rintro e w26 ⟨rfl, hb⟩; replace HB := bs_ HB hb; (try clear hb)))
            go_ret
            exact ⟨by first | rfl | (simp [errW_none, errW_some] <;> rfl) | (simp [*, errW_none, errW_some] <;> rfl), bh_ HB⟩
           ·rw [if_neg c19] at H
            have c19b0 : (t266 == t269) = false := beq_eq_false_iff_ne.mpr c19
            have c19b1 : (t266 != t269) = true := bne_iff_ne.mpr c19
            exact absurd ((Option.some.inj H).trans HT.out) (by simp)
          ·replace c18 := Bool.eq_false_iff.mpr c18
           subst c18
           have H1 : (some false) = some r := by rw [if_neg (show ¬ (false = true) by decide)] at H; exact H
           clear H
           have H := H1
           clear H1
           exact absurd ((Option.some.inj H).trans HT.out) (by simp)
         ·replace c17 := Bool.eq_false_iff.mpr c17
          subst c17
          have H1 : (some false) = some r := by rw [if_neg (show ¬ (false = true) by decide)] at H; exact H
          clear H
          have H := H1
          clear H1
          exact absurd ((Option.some.inj H).trans HT.out) (by simp)
       ·rw [if_neg c15] at H
        have c15b0 : (t262 == (wrap64 (a0))) = false := beq_eq_false_iff_ne.mpr c15
        have c15b1 : (t262 != (wrap64 (a0))) = true := bne_iff_ne.mpr c15
        exact absurd ((Option.some.inj H).trans HT.out) (by simp)
      ·replace c14 := Bool.eq_false_iff.mpr c14
       subst c14
       have H1 : (some false) = some r := by rw [if_neg (show ¬ (false = true) by decide)] at H; exact H
       clear H
       have H := H1
       clear H1
       exact absurd ((Option.some.inj H).trans HT.out) (by simp)
     ·rw [if_neg c12] at H
      exact absurd H (by simp)
    ·rw [if_neg c9] at H
     exact absurd H (by simp)

end Go.Proofs.YtalcenfcknmchaaDoor.P
