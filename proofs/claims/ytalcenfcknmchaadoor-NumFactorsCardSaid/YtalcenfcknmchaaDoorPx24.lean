/- Laid by a program of this session's own (wip/wprint.py, over the kit's print.py): functions of the given program as plain Lean functions, and that the program's calls come to their answers. -/
import Derived.Test.YtalcenfcknmchaaDoorPx0
import Derived.Test.YtalcenfcknmchaaDoorPx1
import Derived.Test.YtalcenfcknmchaaDoorPx8
import Derived.Test.YtalcenfcknmchaaDoorPx11
import Derived.Test.YtalcenfcknmchaaDoorPx12
import Derived.Test.YtalcenfcknmchaaDoorPx15
namespace Go.Proofs.YtalcenfcknmchaaDoor.P
open Go.RowKit Go.Proofs.YtalcenfcknmchaaDoorW.PrintWords Go.Proofs.YtalcenfcknmchaaDoorW.PrintLast Go.Proofs.YtalcenfcknmchaaDoorW.PrintMore
attribute [local go_sem] max2_int min2_int max_two min_two max_three min_three max_four min_four   -- for this text's walks alone
set_option linter.unusedVariables false
set_option linter.unusedSimpArgs false

/-! ### salvorlaw2_NumBack: function 7 -/
def salvorlaw2_NumBack.f (k : Nat) (a0 : Int) : Option (Bool) := (num_Dec.f a0).bind fun t248 => ((num_GetDec.f t248).bind fun bt249 => ((num_Hex.f a0).bind fun t251 => ((num_GetHex.f t251).bind fun bt252 => ((num_Dec.f a0).bind fun t254 => ((num_Get.f k t254).bind fun bt255 => ((off_May.f a0).bind fun t257 => (if t257 = true then (if bt249.2 = true then (if bt252.2 = true then (if bt255.2 = true then (if bt249.1 = a0 then (if bt252.1 = a0 then (if bt255.1 = a0 then ((num_Hex.f a0).bind fun t258 => (if (t258.size : Int) ≥ 10 then ((salvorlaw2_NumRuns.f k).bind fun t259 => (some t259)) else (some false))) else (some false)) else (some false)) else (some false)) else (some false)) else (some false)) else (some false)) else (if bt249.2 = true then (some false) else (if bt252.2 = true then (some false) else (if bt255.2 = true then (some false) else ((salvorlaw2_NumRuns.f k).bind fun t260 => (some t260))))))))))))
theorem salvorlaw2_NumBack.mono : ∀ a0 k, LeO (salvorlaw2_NumBack.f k a0) (salvorlaw2_NumBack.f (k + 1) a0) := by
 intro a0 k
 unfold salvorlaw2_NumBack.f
 repeat' first
   | (with_reducible exact num_Get.mono _ _)
   | (with_reducible exact salvorlaw2_NumRuns.mono _)
   | (with_reducible exact LeO.refl _)
   | (with_reducible exact LeO.none _)
   | (with_reducible refine LeO.ite ?_ ?_)
   | (with_reducible refine LeO.bind ?_ (fun _ => ?_))
   | exact num_Get.mono _ _
   | exact salvorlaw2_NumRuns.mono _
   | exact LeO.none _
   | refine LeO.ite ?_ ?_
   | refine LeO.bind ?_ (fun _ => ?_)
set_option maxHeartbeats 8000000 in
set_option maxRecDepth 100000 in
theorem salvorlaw2_NumBack.calls (k : Nat) (a0 : Int) (r : Bool) (w : World) (h : salvorlaw2_NumBack.f k a0 = some r) (htab : TabAt w) (hrt : r = true) :
  Calls Tryd.prog 7 #[.int .i64 a0] w fun e w' => e = .returned (.bool r) ∧ Below w.heap.size w w' := by
 have HT := Aside0.mk hrt
 clear hrt
 have HTAB := Aside0.mk htab
 clear htab
 have HB := Aside0.mk (Below.refl w.heap.size w)
 have H : ((num_Dec.f a0).bind fun t248 => ((num_GetDec.f t248).bind fun bt249 => ((num_Hex.f a0).bind fun t251 => ((num_GetHex.f t251).bind fun bt252 => ((num_Dec.f a0).bind fun t254 => ((num_Get.f k t254).bind fun bt255 => ((off_May.f a0).bind fun t257 => (if t257 = true then (if bt249.2 = true then (if bt252.2 = true then (if bt255.2 = true then (if bt249.1 = a0 then (if bt252.1 = a0 then (if bt255.1 = a0 then ((num_Hex.f a0).bind fun t258 => (if (t258.size : Int) ≥ 10 then ((salvorlaw2_NumRuns.f k).bind fun t259 => (some t259)) else (some false))) else (some false)) else (some false)) else (some false)) else (some false)) else (some false)) else (some false)) else (if bt249.2 = true then (some false) else (if bt252.2 = true then (some false) else (if bt255.2 = true then (some false) else ((salvorlaw2_NumRuns.f k).bind fun t260 => (some t260))))))))))))) = some r := h
 clear h
 replace H := Option.bind_eq_some_iff.mp H
 obtain ⟨t248, A20, H⟩ := H
 replace H : ((num_GetDec.f t248).bind fun bt249 => ((num_Hex.f a0).bind fun t251 => ((num_GetHex.f t251).bind fun bt252 => ((num_Dec.f a0).bind fun t254 => ((num_Get.f k t254).bind fun bt255 => ((off_May.f a0).bind fun t257 => (if t257 = true then (if bt249.2 = true then (if bt252.2 = true then (if bt255.2 = true then (if bt249.1 = a0 then (if bt252.1 = a0 then (if bt255.1 = a0 then ((num_Hex.f a0).bind fun t258 => (if (t258.size : Int) ≥ 10 then ((salvorlaw2_NumRuns.f k).bind fun t259 => (some t259)) else (some false))) else (some false)) else (some false)) else (some false)) else (some false)) else (some false)) else (some false)) else (if bt249.2 = true then (some false) else (if bt252.2 = true then (some false) else (if bt255.2 = true then (some false) else ((salvorlaw2_NumRuns.f k).bind fun t260 => (some t260)))))))))))) = some r := H
 have A2 := Aside0.mk A20
 clear A20
 replace H := Option.bind_eq_some_iff.mp H
 obtain ⟨⟨t249, t250⟩, A30, H⟩ := H
 replace H : ((num_Hex.f a0).bind fun t251 => ((num_GetHex.f t251).bind fun bt252 => ((num_Dec.f a0).bind fun t254 => ((num_Get.f k t254).bind fun bt255 => ((off_May.f a0).bind fun t257 => (if t257 = true then (if t250 = true then (if bt252.2 = true then (if bt255.2 = true then (if t249 = a0 then (if bt252.1 = a0 then (if bt255.1 = a0 then ((num_Hex.f a0).bind fun t258 => (if (t258.size : Int) ≥ 10 then ((salvorlaw2_NumRuns.f k).bind fun t259 => (some t259)) else (some false))) else (some false)) else (some false)) else (some false)) else (some false)) else (some false)) else (some false)) else (if t250 = true then (some false) else (if bt252.2 = true then (some false) else (if bt255.2 = true then (some false) else ((salvorlaw2_NumRuns.f k).bind fun t260 => (some t260))))))))))) = some r := H
 have A3 := Aside0.mk A30
 clear A30
 replace H := Option.bind_eq_some_iff.mp H
 obtain ⟨t251, A40, H⟩ := H
 replace H : ((num_GetHex.f t251).bind fun bt252 => ((num_Dec.f a0).bind fun t254 => ((num_Get.f k t254).bind fun bt255 => ((off_May.f a0).bind fun t257 => (if t257 = true then (if t250 = true then (if bt252.2 = true then (if bt255.2 = true then (if t249 = a0 then (if bt252.1 = a0 then (if bt255.1 = a0 then ((num_Hex.f a0).bind fun t258 => (if (t258.size : Int) ≥ 10 then ((salvorlaw2_NumRuns.f k).bind fun t259 => (some t259)) else (some false))) else (some false)) else (some false)) else (some false)) else (some false)) else (some false)) else (some false)) else (if t250 = true then (some false) else (if bt252.2 = true then (some false) else (if bt255.2 = true then (some false) else ((salvorlaw2_NumRuns.f k).bind fun t260 => (some t260)))))))))) = some r := H
 have A4 := Aside0.mk A40
 clear A40
 replace H := Option.bind_eq_some_iff.mp H
 obtain ⟨⟨t252, t253⟩, A50, H⟩ := H
 replace H : ((num_Dec.f a0).bind fun t254 => ((num_Get.f k t254).bind fun bt255 => ((off_May.f a0).bind fun t257 => (if t257 = true then (if t250 = true then (if t253 = true then (if bt255.2 = true then (if t249 = a0 then (if t252 = a0 then (if bt255.1 = a0 then ((num_Hex.f a0).bind fun t258 => (if (t258.size : Int) ≥ 10 then ((salvorlaw2_NumRuns.f k).bind fun t259 => (some t259)) else (some false))) else (some false)) else (some false)) else (some false)) else (some false)) else (some false)) else (some false)) else (if t250 = true then (some false) else (if t253 = true then (some false) else (if bt255.2 = true then (some false) else ((salvorlaw2_NumRuns.f k).bind fun t260 => (some t260))))))))) = some r := H
 have A5 := Aside0.mk A50
 clear A50
 replace H := Option.bind_eq_some_iff.mp H
 obtain ⟨t254, A60, H⟩ := H
 replace H : ((num_Get.f k t254).bind fun bt255 => ((off_May.f a0).bind fun t257 => (if t257 = true then (if t250 = true then (if t253 = true then (if bt255.2 = true then (if t249 = a0 then (if t252 = a0 then (if bt255.1 = a0 then ((num_Hex.f a0).bind fun t258 => (if (t258.size : Int) ≥ 10 then ((salvorlaw2_NumRuns.f k).bind fun t259 => (some t259)) else (some false))) else (some false)) else (some false)) else (some false)) else (some false)) else (some false)) else (some false)) else (if t250 = true then (some false) else (if t253 = true then (some false) else (if bt255.2 = true then (some false) else ((salvorlaw2_NumRuns.f k).bind fun t260 => (some t260)))))))) = some r := H
 have A6 := Aside0.mk A60
 clear A60
 replace H := Option.bind_eq_some_iff.mp H
 obtain ⟨⟨t255, t256⟩, A70, H⟩ := H
 replace H : ((off_May.f a0).bind fun t257 => (if t257 = true then (if t250 = true then (if t253 = true then (if t256 = true then (if t249 = a0 then (if t252 = a0 then (if t255 = a0 then ((num_Hex.f a0).bind fun t258 => (if (t258.size : Int) ≥ 10 then ((salvorlaw2_NumRuns.f k).bind fun t259 => (some t259)) else (some false))) else (some false)) else (some false)) else (some false)) else (some false)) else (some false)) else (some false)) else (if t250 = true then (some false) else (if t253 = true then (some false) else (if t256 = true then (some false) else ((salvorlaw2_NumRuns.f k).bind fun t260 => (some t260))))))) = some r := H
 have A7 := Aside0.mk A70
 clear A70
 replace H := Option.bind_eq_some_iff.mp H
 obtain ⟨t257, A80, H⟩ := H
 replace H : (if t257 = true then (if t250 = true then (if t253 = true then (if t256 = true then (if t249 = a0 then (if t252 = a0 then (if t255 = a0 then ((num_Hex.f a0).bind fun t258 => (if (t258.size : Int) ≥ 10 then ((salvorlaw2_NumRuns.f k).bind fun t259 => (some t259)) else (some false))) else (some false)) else (some false)) else (some false)) else (some false)) else (some false)) else (some false)) else (if t250 = true then (some false) else (if t253 = true then (some false) else (if t256 = true then (some false) else ((salvorlaw2_NumRuns.f k).bind fun t260 => (some t260)))))) = some r := H
 have A8 := Aside0.mk A80
 clear A80
 by_cases c9 : t257 = true
 ·subst c9
  have H1 : (if t250 = true then (if t253 = true then (if t256 = true then (if t249 = a0 then (if t252 = a0 then (if t255 = a0 then ((num_Hex.f a0).bind fun t258 => (if (t258.size : Int) ≥ 10 then ((salvorlaw2_NumRuns.f k).bind fun t259 => (some t259)) else (some false))) else (some false)) else (some false)) else (some false)) else (some false)) else (some false)) else (some false)) = some r := by rw [if_pos rfl] at H; exact H
  clear H
  have H := H1
  clear H1
  by_cases c10 : t250 = true
  ·subst c10
   have H1 : (if t253 = true then (if t256 = true then (if t249 = a0 then (if t252 = a0 then (if t255 = a0 then ((num_Hex.f a0).bind fun t258 => (if (t258.size : Int) ≥ 10 then ((salvorlaw2_NumRuns.f k).bind fun t259 => (some t259)) else (some false))) else (some false)) else (some false)) else (some false)) else (some false)) else (some false)) = some r := by rw [if_pos rfl] at H; exact H
   clear H
   have H := H1
   clear H1
   by_cases c11 : t253 = true
   ·subst c11
    have H1 : (if t256 = true then (if t249 = a0 then (if t252 = a0 then (if t255 = a0 then ((num_Hex.f a0).bind fun t258 => (if (t258.size : Int) ≥ 10 then ((salvorlaw2_NumRuns.f k).bind fun t259 => (some t259)) else (some false))) else (some false)) else (some false)) else (some false)) else (some false)) = some r := by rw [if_pos rfl] at H; exact H
    clear H
    have H := H1
    clear H1
    by_cases c12 : t256 = true
    ·subst c12
     have H1 : (if t249 = a0 then (if t252 = a0 then (if t255 = a0 then ((num_Hex.f a0).bind fun t258 => (if (t258.size : Int) ≥ 10 then ((salvorlaw2_NumRuns.f k).bind fun t259 => (some t259)) else (some false))) else (some false)) else (some false)) else (some false)) = some r := by rw [if_pos rfl] at H; exact H
     clear H
     have H := H1
     clear H1
     by_cases c13 : t249 = a0
     ·rw [if_pos c13] at H
      have c13b0 : (t249 == a0) = true := beq_iff_eq.mpr c13
      have c13b1 : (t249 != a0) = false := bne_eq_false_iff_eq.mpr c13
      clear c13
      by_cases c14 : t252 = a0
      ·rw [if_pos c14] at H
       have c14b0 : (t252 == a0) = true := beq_iff_eq.mpr c14
       have c14b1 : (t252 != a0) = false := bne_eq_false_iff_eq.mpr c14
       clear c14
       by_cases c15 : t255 = a0
       ·rw [if_pos c15] at H
        have c15b0 : (t255 == a0) = true := beq_iff_eq.mpr c15
        have c15b1 : (t255 != a0) = false := bne_eq_false_iff_eq.mpr c15
        clear c15
        replace H := Option.bind_eq_some_iff.mp H
        obtain ⟨t258, A160, H⟩ := H
        replace H : (if (t258.size : Int) ≥ 10 then ((salvorlaw2_NumRuns.f k).bind fun t259 => (some t259)) else (some false)) = some r := H
        have A16 := Aside0.mk A160
        clear A160
        by_cases c17 : (t258.size : Int) ≥ 10
        ·rw [if_pos c17] at H
         have c17b0 : decide (10 ≤ (t258.size : Int)) = true := decide_eq_true c17
         have c17b1 : decide (10 ≤ t258.size) = true := decide_eq_true (by omega)
         clear c17
         replace H := Option.bind_eq_some_iff.mp H
         obtain ⟨t259, A180, H⟩ := H
         replace H : (some t259) = some r := H
         have A18 := Aside0.mk A180
         clear A180
         obtain rfl := Option.some.inj H
         go_enter Tryd.func7, Tryd.ntmps7
         go_wp2_with (first | ((with_reducible refine gate_callee (f := 12) rfl ?_); refine gl_ (some 11) rfl rfl Tryd.func12 (by kernel_rfl) rfl #[.int .i64 a0] rfl ?_; (with_reducible refine (num_Dec.calls a0 t248 _ A2.out ?tb0_).mono ?_); (case tb0_ => exact tb_ HTAB HB); rintro e w19 ⟨rfl, hb⟩; refine ⟨_, rfl, ?_⟩; replace HB := bs_ HB hb; (try clear hb)) | ((with_reducible refine gate_callee (f := 15) rfl ?_); refine gl_ (some 12) rfl rfl Tryd.func15 (by kernel_rfl) rfl #[.string t248] rfl ?_; (with_reducible refine (num_GetDec.calls t248 t249 true _ A3.out ?tb2_).mono ?_); (case tb2_ => exact tb_ HTAB HB); rintro e w20 ⟨rfl, hb⟩; refine ⟨_, rfl, ?_⟩; replace HB := bs_ HB hb; (try clear hb)) | ((with_reducible refine gate_callee (f := 11) rfl ?_); refine gl_ (some 17) rfl rfl Tryd.func11 (by kernel_rfl) rfl #[.int .i64 a0] rfl ?_; (with_reducible refine (num_Hex.calls a0 t251 _ A4.out ?tb4_).mono ?_); (case tb4_ => exact tb_ HTAB HB); rintro e w21 ⟨rfl, hb⟩; refine ⟨_, rfl, ?_⟩; replace HB := bs_ HB hb; (try clear hb)) | ((with_reducible refine gate_callee (f := 10) rfl ?_); refine gl_ (some 18) rfl rfl Tryd.func10 (by kernel_rfl) rfl #[.string t251] rfl ?_; (with_reducible refine (num_GetHex.calls t251 t252 true _ A5.out ?tb6_).mono ?_); (case tb6_ => exact tb_ HTAB HB); rintro e w22 ⟨rfl, hb⟩; refine ⟨_, rfl, ?_⟩; replace HB := bs_ HB hb; (try clear hb)) | ((with_reducible refine gate_callee (f := 12) rfl ?_); refine gl_ (some 23) rfl rfl Tryd.func12 (by kernel_rfl) rfl #[.int .i64 a0] rfl ?_; (with_reducible refine (num_Dec.calls a0 t254 _ A6.out ?tb8_).mono ?_); (case tb8_ => exact tb_ HTAB HB); rintro e w23 ⟨rfl, hb⟩; refine ⟨_, rfl, ?_⟩; replace HB := bs_ HB hb; (try clear hb)) | ((with_reducible refine gate_callee (f := 9) rfl ?_); refine gl_ (some 24) rfl rfl Tryd.func9 (by kernel_rfl) rfl #[.string t254] rfl ?_; (with_reducible refine (num_Get.calls k t254 t255 true _ A7.out ?tb10_).mono ?_); (case tb10_ => exact tb_ HTAB HB); rintro e w24 ⟨rfl, hb⟩; refine ⟨_, rfl, ?_⟩; replace HB := bs_ HB hb; (try clear hb)) | ((with_reducible refine gate_callee (f := 21) rfl ?_); refine gl_ (some 28) rfl rfl Tryd.func21 (by kernel_rfl) rfl #[.int .i64 a0] rfl ?_; (with_reducible refine (off_May.calls a0 true _ A8.out).mono ?_); rintro e w' ⟨rfl, ⟨nd, rfl⟩⟩; refine ⟨_, rfl, ?_⟩) | (go_at_call 11; (with_reducible refine (num_Hex.calls a0 t258 _ A16.out ?tb12_).mono ?_); (case tb12_ => exact tb_ HTAB HB); rintro e w25 ⟨rfl, hb⟩; replace HB := bs_ HB hb; (try clear hb)) | (go_at_call 3; (with_reducible refine (salvorlaw2_NumRuns.calls k  t259 _ A18.out ?tb14_).mono ?_); (case tb14_ => exact tb_ HTAB HB); rintro e w26 ⟨rfl, hb⟩; replace HB := bs_ HB hb; (try clear hb)))
         go_ret
         exact ⟨by first | rfl | (simp [errW_none, errW_some] <;> rfl) | (simp [*, errW_none, errW_some] <;> rfl), bh_ HB⟩
        ·rw [if_neg c17] at H
         have c17b0 : decide (10 ≤ (t258.size : Int)) = false := decide_eq_false c17
         have c17b1 : decide (10 ≤ t258.size) = false := decide_eq_false (by omega)
         clear c17
         exact absurd ((Option.some.inj H).trans HT.out) (by simp)
       ·rw [if_neg c15] at H
        have c15b0 : (t255 == a0) = false := beq_eq_false_iff_ne.mpr c15
        have c15b1 : (t255 != a0) = true := bne_iff_ne.mpr c15
        exact absurd ((Option.some.inj H).trans HT.out) (by simp)
      ·rw [if_neg c14] at H
       have c14b0 : (t252 == a0) = false := beq_eq_false_iff_ne.mpr c14
       have c14b1 : (t252 != a0) = true := bne_iff_ne.mpr c14
       exact absurd ((Option.some.inj H).trans HT.out) (by simp)
     ·rw [if_neg c13] at H
      have c13b0 : (t249 == a0) = false := beq_eq_false_iff_ne.mpr c13
      have c13b1 : (t249 != a0) = true := bne_iff_ne.mpr c13
      exact absurd ((Option.some.inj H).trans HT.out) (by simp)
    ·replace c12 := Bool.eq_false_iff.mpr c12
     subst c12
     have H1 : (some false) = some r := by rw [if_neg (show ¬ (false = true) by decide)] at H; exact H
     clear H
     have H := H1
     clear H1
     exact absurd ((Option.some.inj H).trans HT.out) (by simp)
   ·replace c11 := Bool.eq_false_iff.mpr c11
    subst c11
    have H1 : (some false) = some r := by rw [if_neg (show ¬ (false = true) by decide)] at H; exact H
    clear H
    have H := H1
    clear H1
    exact absurd ((Option.some.inj H).trans HT.out) (by simp)
  ·replace c10 := Bool.eq_false_iff.mpr c10
   subst c10
   have H1 : (some false) = some r := by rw [if_neg (show ¬ (false = true) by decide)] at H; exact H
   clear H
   have H := H1
   clear H1
   exact absurd ((Option.some.inj H).trans HT.out) (by simp)
 ·replace c9 := Bool.eq_false_iff.mpr c9
  subst c9
  have H1 : (if t250 = true then (some false) else (if t253 = true then (some false) else (if t256 = true then (some false) else ((salvorlaw2_NumRuns.f k).bind fun t260 => (some t260))))) = some r := by rw [if_neg (show ¬ (false = true) by decide)] at H; exact H
  clear H
  have H := H1
  clear H1
  by_cases c27 : t250 = true
  ·subst c27
   have H1 : (some false) = some r := by rw [if_pos rfl] at H; exact H
   clear H
   have H := H1
   clear H1
   exact absurd ((Option.some.inj H).trans HT.out) (by simp)
  ·replace c27 := Bool.eq_false_iff.mpr c27
   subst c27
   have H1 : (if t253 = true then (some false) else (if t256 = true then (some false) else ((salvorlaw2_NumRuns.f k).bind fun t260 => (some t260)))) = some r := by rw [if_neg (show ¬ (false = true) by decide)] at H; exact H
   clear H
   have H := H1
   clear H1
   by_cases c28 : t253 = true
   ·subst c28
    have H1 : (some false) = some r := by rw [if_pos rfl] at H; exact H
    clear H
    have H := H1
    clear H1
    exact absurd ((Option.some.inj H).trans HT.out) (by simp)
   ·replace c28 := Bool.eq_false_iff.mpr c28
    subst c28
    have H1 : (if t256 = true then (some false) else ((salvorlaw2_NumRuns.f k).bind fun t260 => (some t260))) = some r := by rw [if_neg (show ¬ (false = true) by decide)] at H; exact H
    clear H
    have H := H1
    clear H1
    by_cases c29 : t256 = true
    ·subst c29
     have H1 : (some false) = some r := by rw [if_pos rfl] at H; exact H
     clear H
     have H := H1
     clear H1
     exact absurd ((Option.some.inj H).trans HT.out) (by simp)
    ·replace c29 := Bool.eq_false_iff.mpr c29
     subst c29
     have H1 : ((salvorlaw2_NumRuns.f k).bind fun t260 => (some t260)) = some r := by rw [if_neg (show ¬ (false = true) by decide)] at H; exact H
     clear H
     have H := H1
     clear H1
     replace H := Option.bind_eq_some_iff.mp H
     obtain ⟨t260, A300, H⟩ := H
     replace H : (some t260) = some r := H
     have A30 := Aside0.mk A300
     clear A300
     obtain rfl := Option.some.inj H
     go_enter Tryd.func7, Tryd.ntmps7
     go_wp2_with (first | ((with_reducible refine gate_callee (f := 12) rfl ?_); refine gl_ (some 11) rfl rfl Tryd.func12 (by kernel_rfl) rfl #[.int .i64 a0] rfl ?_; (with_reducible refine (num_Dec.calls a0 t248 _ A2.out ?tb16_).mono ?_); (case tb16_ => exact tb_ HTAB HB); rintro e w31 ⟨rfl, hb⟩; refine ⟨_, rfl, ?_⟩; replace HB := bs_ HB hb; (try clear hb)) | ((with_reducible refine gate_callee (f := 15) rfl ?_); refine gl_ (some 12) rfl rfl Tryd.func15 (by kernel_rfl) rfl #[.string t248] rfl ?_; (with_reducible refine (num_GetDec.calls t248 t249 false _ A3.out ?tb18_).mono ?_); (case tb18_ => exact tb_ HTAB HB); rintro e w32 ⟨rfl, hb⟩; refine ⟨_, rfl, ?_⟩; replace HB := bs_ HB hb; (try clear hb)) | ((with_reducible refine gate_callee (f := 11) rfl ?_); refine gl_ (some 17) rfl rfl Tryd.func11 (by kernel_rfl) rfl #[.int .i64 a0] rfl ?_; (with_reducible refine (num_Hex.calls a0 t251 _ A4.out ?tb20_).mono ?_); (case tb20_ => exact tb_ HTAB HB); rintro e w33 ⟨rfl, hb⟩; refine ⟨_, rfl, ?_⟩; replace HB := bs_ HB hb; (try clear hb)) | ((with_reducible refine gate_callee (f := 10) rfl ?_); refine gl_ (some 18) rfl rfl Tryd.func10 (by kernel_rfl) rfl #[.string t251] rfl ?_; (with_reducible refine (num_GetHex.calls t251 t252 false _ A5.out ?tb22_).mono ?_); (case tb22_ => exact tb_ HTAB HB); rintro e w34 ⟨rfl, hb⟩; refine ⟨_, rfl, ?_⟩; replace HB := bs_ HB hb; (try clear hb)) | ((with_reducible refine gate_callee (f := 12) rfl ?_); refine gl_ (some 23) rfl rfl Tryd.func12 (by kernel_rfl) rfl #[.int .i64 a0] rfl ?_; (with_reducible refine (num_Dec.calls a0 t254 _ A6.out ?tb24_).mono ?_); (case tb24_ => exact tb_ HTAB HB); rintro e w35 ⟨rfl, hb⟩; refine ⟨_, rfl, ?_⟩; replace HB := bs_ HB hb; (try clear hb)) | ((with_reducible refine gate_callee (f := 9) rfl ?_); refine gl_ (some 24) rfl rfl Tryd.func9 (by kernel_rfl) rfl #[.string t254] rfl ?_; (with_reducible refine (num_Get.calls k t254 t255 false _ A7.out ?tb26_).mono ?_); (case tb26_ => exact tb_ HTAB HB); rintro e w36 ⟨rfl, hb⟩; refine ⟨_, rfl, ?_⟩; replace HB := bs_ HB hb; (try clear hb)) | ((with_reducible refine gate_callee (f := 21) rfl ?_); refine gl_ (some 28) rfl rfl Tryd.func21 (by kernel_rfl) rfl #[.int .i64 a0] rfl ?_; (with_reducible refine (off_May.calls a0 false _ A8.out).mono ?_); rintro e w' ⟨rfl, ⟨nd, rfl⟩⟩; refine ⟨_, rfl, ?_⟩) | (go_at_call 3; (with_reducible refine (salvorlaw2_NumRuns.calls k  t260 _ A30.out ?tb28_).mono ?_); (case tb28_ => exact tb_ HTAB HB); rintro e w37 ⟨rfl, hb⟩; replace HB := bs_ HB hb; (try clear hb)))
     go_ret
     exact ⟨by first | rfl | (simp [errW_none, errW_some] <;> rfl) | (simp [*, errW_none, errW_some] <;> rfl), bh_ HB⟩

end Go.Proofs.YtalcenfcknmchaaDoor.P
