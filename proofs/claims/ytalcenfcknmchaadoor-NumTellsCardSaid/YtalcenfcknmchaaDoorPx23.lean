/- Laid by a program of this session's own (wip/wprint.py, over the kit's print.py): functions of the given program as plain Lean functions, and that the program's calls come to their answers. -/
import Derived.Test.YtalcenfcknmchaaDoorPx0
import Derived.Test.YtalcenfcknmchaaDoorPx8
import Derived.Test.YtalcenfcknmchaaDoorPx11
import Derived.Test.YtalcenfcknmchaaDoorPx12
import Derived.Test.YtalcenfcknmchaaDoorPx15
import Derived.Test.YtalcenfcknmchaaDoorPx17
import Derived.Test.YtalcenfcknmchaaDoorPx21
import Derived.Test.YtalcenfcknmchaaDoorPx22
namespace Go.Proofs.YtalcenfcknmchaaDoor.P
open Go.RowKit Go.Proofs.YtalcenfcknmchaaDoorW.PrintWords Go.Proofs.YtalcenfcknmchaaDoorW.PrintLast Go.Proofs.YtalcenfcknmchaaDoorW.PrintMore
attribute [local go_sem] max2_int min2_int max_two min_two max_three min_three max_four min_four   -- for this text's walks alone
set_option linter.unusedVariables false
set_option linter.unusedSimpArgs false

/-! ### salvorlaw2_NumTells: function 6 -/
def salvorlaw2_NumTells.f (k : Nat) (a0 : Int) (a1 : ByteArray) : Option (Bool) := if (a1.size : Int) > 200 then ((salvorlaw2_NumRuns.f k).bind fun t230 => (some t230)) else ((num_GetDec.f a1).bind fun bt231 => ((salvorref1_GetDec.f k a1).bind fun bt233 => ((num_GetHex.f a1).bind fun bt235 => ((salvorref1_GetHex.f k a1).bind fun bt237 => ((num_Get.f k a1).bind fun bt239 => ((salvorref1_Get.f k a1).bind fun bt241 => ((num_Dec.f a0).bind fun t243 => ((salvorref1_Dec.f k a0).bind fun t244 => (if t243.toList = t244.toList then ((num_Hex.f a0).bind fun t245 => ((salvorref1_Hex.f k a0).bind fun t246 => (if t245.toList = t246.toList then (if bt231.1 = bt233.1 then (if (bt231.2 == bt233.2) = true then (if bt235.1 = bt237.1 then (if (bt235.2 == bt237.2) = true then (if bt239.1 = bt241.1 then (if (bt239.2 == bt241.2) = true then ((salvorlaw2_NumRuns.f k).bind fun t247 => (some t247)) else (some false)) else (some false)) else (some false)) else (some false)) else (some false)) else (some false)) else (some false)))) else (some false))))))))))
theorem salvorlaw2_NumTells.mono : ∀ a0 a1 k, LeO (salvorlaw2_NumTells.f k a0 a1) (salvorlaw2_NumTells.f (k + 1) a0 a1) := by
 intro a0 a1 k
 unfold salvorlaw2_NumTells.f
 repeat' first
   | (with_reducible exact num_Get.mono _ _)
   | (with_reducible exact salvorlaw2_NumRuns.mono _)
   | (with_reducible exact salvorref1_Dec.mono _ _)
   | (with_reducible exact salvorref1_Get.mono _ _)
   | (with_reducible exact salvorref1_GetDec.mono _ _)
   | (with_reducible exact salvorref1_GetHex.mono _ _)
   | (with_reducible exact salvorref1_Hex.mono _ _)
   | (with_reducible exact LeO.refl _)
   | (with_reducible exact LeO.none _)
   | (with_reducible refine LeO.ite ?_ ?_)
   | (with_reducible refine LeO.bind ?_ (fun _ => ?_))
   | exact num_Get.mono _ _
   | exact salvorlaw2_NumRuns.mono _
   | exact salvorref1_Dec.mono _ _
   | exact salvorref1_Get.mono _ _
   | exact salvorref1_GetDec.mono _ _
   | exact salvorref1_GetHex.mono _ _
   | exact salvorref1_Hex.mono _ _
   | exact LeO.none _
   | refine LeO.ite ?_ ?_
   | refine LeO.bind ?_ (fun _ => ?_)
set_option maxHeartbeats 8000000 in
set_option maxRecDepth 100000 in
theorem salvorlaw2_NumTells.calls (k : Nat) (a0 : Int) (a1 : ByteArray) (r : Bool) (w : World) (h : salvorlaw2_NumTells.f k a0 a1 = some r) (htab : TabAt w) (hrt : r = true) :
  Calls Tryd.prog 6 #[.int .i64 a0, .string a1] w fun e w' => e = .returned (.bool r) ∧ Below w.heap.size w w' := by
 have HT := Aside0.mk hrt
 clear hrt
 have HTAB := Aside0.mk htab
 clear htab
 have HB := Aside0.mk (Below.refl w.heap.size w)
 have H : (if (a1.size : Int) > 200 then ((salvorlaw2_NumRuns.f k).bind fun t230 => (some t230)) else ((num_GetDec.f a1).bind fun bt231 => ((salvorref1_GetDec.f k a1).bind fun bt233 => ((num_GetHex.f a1).bind fun bt235 => ((salvorref1_GetHex.f k a1).bind fun bt237 => ((num_Get.f k a1).bind fun bt239 => ((salvorref1_Get.f k a1).bind fun bt241 => ((num_Dec.f a0).bind fun t243 => ((salvorref1_Dec.f k a0).bind fun t244 => (if t243.toList = t244.toList then ((num_Hex.f a0).bind fun t245 => ((salvorref1_Hex.f k a0).bind fun t246 => (if t245.toList = t246.toList then (if bt231.1 = bt233.1 then (if (bt231.2 == bt233.2) = true then (if bt235.1 = bt237.1 then (if (bt235.2 == bt237.2) = true then (if bt239.1 = bt241.1 then (if (bt239.2 == bt241.2) = true then ((salvorlaw2_NumRuns.f k).bind fun t247 => (some t247)) else (some false)) else (some false)) else (some false)) else (some false)) else (some false)) else (some false)) else (some false)))) else (some false))))))))))) = some r := h
 clear h
 by_cases c3 : (a1.size : Int) > 200
 ·rw [if_pos c3] at H
  have c3b0 : decide (200 < (a1.size : Int)) = true := decide_eq_true c3
  have c3b1 : decide (200 < a1.size) = true := decide_eq_true (by omega)
  clear c3
  replace H := Option.bind_eq_some_iff.mp H
  obtain ⟨t230, A40, H⟩ := H
  replace H : (some t230) = some r := H
  have A4 := Aside0.mk A40
  clear A40
  obtain rfl := Option.some.inj H
  go_enter Tryd.func6, Tryd.ntmps6
  go_wp2_with (first | ((with_reducible refine gate_callee (f := 3) rfl ?_); refine gl_ (some 20) rfl rfl Tryd.func3 (by kernel_rfl) rfl #[] rfl ?_; (with_reducible refine (salvorlaw2_NumRuns.calls k  t230 _ A4.out ?tb0_).mono ?_); (case tb0_ => exact tb_ HTAB HB); rintro e w5 ⟨rfl, hb⟩; refine ⟨_, rfl, ?_⟩; replace HB := bs_ HB hb; (try clear hb)))
  go_ret
  exact ⟨by first | rfl | (simp [errW_none, errW_some] <;> rfl) | (simp [*, errW_none, errW_some] <;> rfl), bh_ HB⟩
 ·rw [if_neg c3] at H
  have c3b0 : decide (200 < (a1.size : Int)) = false := decide_eq_false c3
  have c3b1 : decide (200 < a1.size) = false := decide_eq_false (by omega)
  clear c3
  replace H := Option.bind_eq_some_iff.mp H
  obtain ⟨⟨t231, t232⟩, A60, H⟩ := H
  replace H : ((salvorref1_GetDec.f k a1).bind fun bt233 => ((num_GetHex.f a1).bind fun bt235 => ((salvorref1_GetHex.f k a1).bind fun bt237 => ((num_Get.f k a1).bind fun bt239 => ((salvorref1_Get.f k a1).bind fun bt241 => ((num_Dec.f a0).bind fun t243 => ((salvorref1_Dec.f k a0).bind fun t244 => (if t243.toList = t244.toList then ((num_Hex.f a0).bind fun t245 => ((salvorref1_Hex.f k a0).bind fun t246 => (if t245.toList = t246.toList then (if t231 = bt233.1 then (if (t232 == bt233.2) = true then (if bt235.1 = bt237.1 then (if (bt235.2 == bt237.2) = true then (if bt239.1 = bt241.1 then (if (bt239.2 == bt241.2) = true then ((salvorlaw2_NumRuns.f k).bind fun t247 => (some t247)) else (some false)) else (some false)) else (some false)) else (some false)) else (some false)) else (some false)) else (some false)))) else (some false))))))))) = some r := H
  have A6 := Aside0.mk A60
  clear A60
  replace H := Option.bind_eq_some_iff.mp H
  obtain ⟨⟨t233, t234⟩, A70, H⟩ := H
  replace H : ((num_GetHex.f a1).bind fun bt235 => ((salvorref1_GetHex.f k a1).bind fun bt237 => ((num_Get.f k a1).bind fun bt239 => ((salvorref1_Get.f k a1).bind fun bt241 => ((num_Dec.f a0).bind fun t243 => ((salvorref1_Dec.f k a0).bind fun t244 => (if t243.toList = t244.toList then ((num_Hex.f a0).bind fun t245 => ((salvorref1_Hex.f k a0).bind fun t246 => (if t245.toList = t246.toList then (if t231 = t233 then (if (t232 == t234) = true then (if bt235.1 = bt237.1 then (if (bt235.2 == bt237.2) = true then (if bt239.1 = bt241.1 then (if (bt239.2 == bt241.2) = true then ((salvorlaw2_NumRuns.f k).bind fun t247 => (some t247)) else (some false)) else (some false)) else (some false)) else (some false)) else (some false)) else (some false)) else (some false)))) else (some false)))))))) = some r := H
  have A7 := Aside0.mk A70
  clear A70
  replace H := Option.bind_eq_some_iff.mp H
  obtain ⟨⟨t235, t236⟩, A80, H⟩ := H
  replace H : ((salvorref1_GetHex.f k a1).bind fun bt237 => ((num_Get.f k a1).bind fun bt239 => ((salvorref1_Get.f k a1).bind fun bt241 => ((num_Dec.f a0).bind fun t243 => ((salvorref1_Dec.f k a0).bind fun t244 => (if t243.toList = t244.toList then ((num_Hex.f a0).bind fun t245 => ((salvorref1_Hex.f k a0).bind fun t246 => (if t245.toList = t246.toList then (if t231 = t233 then (if (t232 == t234) = true then (if t235 = bt237.1 then (if (t236 == bt237.2) = true then (if bt239.1 = bt241.1 then (if (bt239.2 == bt241.2) = true then ((salvorlaw2_NumRuns.f k).bind fun t247 => (some t247)) else (some false)) else (some false)) else (some false)) else (some false)) else (some false)) else (some false)) else (some false)))) else (some false))))))) = some r := H
  have A8 := Aside0.mk A80
  clear A80
  replace H := Option.bind_eq_some_iff.mp H
  obtain ⟨⟨t237, t238⟩, A90, H⟩ := H
  replace H : ((num_Get.f k a1).bind fun bt239 => ((salvorref1_Get.f k a1).bind fun bt241 => ((num_Dec.f a0).bind fun t243 => ((salvorref1_Dec.f k a0).bind fun t244 => (if t243.toList = t244.toList then ((num_Hex.f a0).bind fun t245 => ((salvorref1_Hex.f k a0).bind fun t246 => (if t245.toList = t246.toList then (if t231 = t233 then (if (t232 == t234) = true then (if t235 = t237 then (if (t236 == t238) = true then (if bt239.1 = bt241.1 then (if (bt239.2 == bt241.2) = true then ((salvorlaw2_NumRuns.f k).bind fun t247 => (some t247)) else (some false)) else (some false)) else (some false)) else (some false)) else (some false)) else (some false)) else (some false)))) else (some false)))))) = some r := H
  have A9 := Aside0.mk A90
  clear A90
  replace H := Option.bind_eq_some_iff.mp H
  obtain ⟨⟨t239, t240⟩, A100, H⟩ := H
  replace H : ((salvorref1_Get.f k a1).bind fun bt241 => ((num_Dec.f a0).bind fun t243 => ((salvorref1_Dec.f k a0).bind fun t244 => (if t243.toList = t244.toList then ((num_Hex.f a0).bind fun t245 => ((salvorref1_Hex.f k a0).bind fun t246 => (if t245.toList = t246.toList then (if t231 = t233 then (if (t232 == t234) = true then (if t235 = t237 then (if (t236 == t238) = true then (if t239 = bt241.1 then (if (t240 == bt241.2) = true then ((salvorlaw2_NumRuns.f k).bind fun t247 => (some t247)) else (some false)) else (some false)) else (some false)) else (some false)) else (some false)) else (some false)) else (some false)))) else (some false))))) = some r := H
  have A10 := Aside0.mk A100
  clear A100
  replace H := Option.bind_eq_some_iff.mp H
  obtain ⟨⟨t241, t242⟩, A110, H⟩ := H
  replace H : ((num_Dec.f a0).bind fun t243 => ((salvorref1_Dec.f k a0).bind fun t244 => (if t243.toList = t244.toList then ((num_Hex.f a0).bind fun t245 => ((salvorref1_Hex.f k a0).bind fun t246 => (if t245.toList = t246.toList then (if t231 = t233 then (if (t232 == t234) = true then (if t235 = t237 then (if (t236 == t238) = true then (if t239 = t241 then (if (t240 == t242) = true then ((salvorlaw2_NumRuns.f k).bind fun t247 => (some t247)) else (some false)) else (some false)) else (some false)) else (some false)) else (some false)) else (some false)) else (some false)))) else (some false)))) = some r := H
  have A11 := Aside0.mk A110
  clear A110
  replace H := Option.bind_eq_some_iff.mp H
  obtain ⟨t243, A120, H⟩ := H
  replace H : ((salvorref1_Dec.f k a0).bind fun t244 => (if t243.toList = t244.toList then ((num_Hex.f a0).bind fun t245 => ((salvorref1_Hex.f k a0).bind fun t246 => (if t245.toList = t246.toList then (if t231 = t233 then (if (t232 == t234) = true then (if t235 = t237 then (if (t236 == t238) = true then (if t239 = t241 then (if (t240 == t242) = true then ((salvorlaw2_NumRuns.f k).bind fun t247 => (some t247)) else (some false)) else (some false)) else (some false)) else (some false)) else (some false)) else (some false)) else (some false)))) else (some false))) = some r := H
  have A12 := Aside0.mk A120
  clear A120
  replace H := Option.bind_eq_some_iff.mp H
  obtain ⟨t244, A130, H⟩ := H
  replace H : (if t243.toList = t244.toList then ((num_Hex.f a0).bind fun t245 => ((salvorref1_Hex.f k a0).bind fun t246 => (if t245.toList = t246.toList then (if t231 = t233 then (if (t232 == t234) = true then (if t235 = t237 then (if (t236 == t238) = true then (if t239 = t241 then (if (t240 == t242) = true then ((salvorlaw2_NumRuns.f k).bind fun t247 => (some t247)) else (some false)) else (some false)) else (some false)) else (some false)) else (some false)) else (some false)) else (some false)))) else (some false)) = some r := H
  have A13 := Aside0.mk A130
  clear A130
  by_cases c14 : t243.toList = t244.toList
  ·rw [if_pos c14] at H
   have c14b0 : (t243.toList == t244.toList) = true := beq_iff_eq.mpr c14
   have c14b1 : (t243.toList != t244.toList) = false := bne_eq_false_iff_eq.mpr c14
   clear c14
   replace H := Option.bind_eq_some_iff.mp H
   obtain ⟨t245, A150, H⟩ := H
   replace H : ((salvorref1_Hex.f k a0).bind fun t246 => (if t245.toList = t246.toList then (if t231 = t233 then (if (t232 == t234) = true then (if t235 = t237 then (if (t236 == t238) = true then (if t239 = t241 then (if (t240 == t242) = true then ((salvorlaw2_NumRuns.f k).bind fun t247 => (some t247)) else (some false)) else (some false)) else (some false)) else (some false)) else (some false)) else (some false)) else (some false))) = some r := H
   have A15 := Aside0.mk A150
   clear A150
   replace H := Option.bind_eq_some_iff.mp H
   obtain ⟨t246, A160, H⟩ := H
   replace H : (if t245.toList = t246.toList then (if t231 = t233 then (if (t232 == t234) = true then (if t235 = t237 then (if (t236 == t238) = true then (if t239 = t241 then (if (t240 == t242) = true then ((salvorlaw2_NumRuns.f k).bind fun t247 => (some t247)) else (some false)) else (some false)) else (some false)) else (some false)) else (some false)) else (some false)) else (some false)) = some r := H
   have A16 := Aside0.mk A160
   clear A160
   by_cases c17 : t245.toList = t246.toList
   ·rw [if_pos c17] at H
    have c17b0 : (t245.toList == t246.toList) = true := beq_iff_eq.mpr c17
    have c17b1 : (t245.toList != t246.toList) = false := bne_eq_false_iff_eq.mpr c17
    clear c17
    by_cases c18 : t231 = t233
    ·rw [if_pos c18] at H
     have c18b0 : (t231 == t233) = true := beq_iff_eq.mpr c18
     have c18b1 : (t231 != t233) = false := bne_eq_false_iff_eq.mpr c18
     clear c18
     by_cases c19 : (t232 == t234) = true
     ·rw [if_pos c19] at H
      have c19b0 : (t232 == t234) = true := c19
      (try (have c19b1 : decide (t232 = t234) = true := by simpa using c19))
      (try (have c19b2 : (t232 == t234) = true := by simpa using c19))
      clear c19
      by_cases c20 : t235 = t237
      ·rw [if_pos c20] at H
       have c20b0 : (t235 == t237) = true := beq_iff_eq.mpr c20
       have c20b1 : (t235 != t237) = false := bne_eq_false_iff_eq.mpr c20
       clear c20
       by_cases c21 : (t236 == t238) = true
       ·rw [if_pos c21] at H
        have c21b0 : (t236 == t238) = true := c21
        (try (have c21b1 : decide (t236 = t238) = true := by simpa using c21))
        (try (have c21b2 : (t236 == t238) = true := by simpa using c21))
        clear c21
        by_cases c22 : t239 = t241
        ·rw [if_pos c22] at H
         have c22b0 : (t239 == t241) = true := beq_iff_eq.mpr c22
         have c22b1 : (t239 != t241) = false := bne_eq_false_iff_eq.mpr c22
         clear c22
         by_cases c23 : (t240 == t242) = true
         ·rw [if_pos c23] at H
          have c23b0 : (t240 == t242) = true := c23
          (try (have c23b1 : decide (t240 = t242) = true := by simpa using c23))
          (try (have c23b2 : (t240 == t242) = true := by simpa using c23))
          clear c23
          replace H := Option.bind_eq_some_iff.mp H
          obtain ⟨t247, A240, H⟩ := H
          replace H : (some t247) = some r := H
          have A24 := Aside0.mk A240
          clear A240
          obtain rfl := Option.some.inj H
          go_enter Tryd.func6, Tryd.ntmps6
          go_wp2_with (first | ((with_reducible refine gate_callee (f := 15) rfl ?_); refine gl_ (some 23) rfl rfl Tryd.func15 (by kernel_rfl) rfl #[.string a1] rfl ?_; (with_reducible refine (num_GetDec.calls a1 t231 t232 _ A6.out ?tb2_).mono ?_); (case tb2_ => exact tb_ HTAB HB); rintro e w25 ⟨rfl, hb⟩; refine ⟨_, rfl, ?_⟩; replace HB := bs_ HB hb; (try clear hb)) | ((with_reducible refine gate_callee (f := 16) rfl ?_); refine gl_ (some 28) rfl rfl Tryd.func16 (by kernel_rfl) rfl #[.string a1] rfl ?_; (with_reducible refine (salvorref1_GetDec.calls k a1 t233 t234 _ A7.out).mono ?_); rintro e w' ⟨rfl, ⟨nd, rfl⟩⟩; refine ⟨_, rfl, ?_⟩) | ((with_reducible refine gate_callee (f := 10) rfl ?_); refine gl_ (some 33) rfl rfl Tryd.func10 (by kernel_rfl) rfl #[.string a1] rfl ?_; (with_reducible refine (num_GetHex.calls a1 t235 t236 _ A8.out ?tb4_).mono ?_); (case tb4_ => exact tb_ HTAB HB); rintro e w26 ⟨rfl, hb⟩; refine ⟨_, rfl, ?_⟩; replace HB := bs_ HB hb; (try clear hb)) | ((with_reducible refine gate_callee (f := 17) rfl ?_); refine gl_ (some 38) rfl rfl Tryd.func17 (by kernel_rfl) rfl #[.string a1] rfl ?_; (with_reducible refine (salvorref1_GetHex.calls k a1 t237 t238 _ A9.out).mono ?_); rintro e w' ⟨rfl, ⟨nd, rfl⟩⟩; refine ⟨_, rfl, ?_⟩) | ((with_reducible refine gate_callee (f := 9) rfl ?_); refine gl_ (some 43) rfl rfl Tryd.func9 (by kernel_rfl) rfl #[.string a1] rfl ?_; (with_reducible refine (num_Get.calls k a1 t239 t240 _ A10.out ?tb6_).mono ?_); (case tb6_ => exact tb_ HTAB HB); rintro e w27 ⟨rfl, hb⟩; refine ⟨_, rfl, ?_⟩; replace HB := bs_ HB hb; (try clear hb)) | ((with_reducible refine gate_callee (f := 18) rfl ?_); refine gl_ (some 48) rfl rfl Tryd.func18 (by kernel_rfl) rfl #[.string a1] rfl ?_; (with_reducible refine (salvorref1_Get.calls k a1 t241 t242 _ A11.out).mono ?_); rintro e w28 ⟨rfl, hb⟩; refine ⟨_, rfl, ?_⟩; replace HB := bs_ HB hb; (try clear hb)) | ((with_reducible refine gate_callee (f := 12) rfl ?_); refine gl_ (some 52) rfl rfl Tryd.func12 (by kernel_rfl) rfl #[.int .i64 a0] rfl ?_; (with_reducible refine (num_Dec.calls a0 t243 _ A12.out ?tb8_).mono ?_); (case tb8_ => exact tb_ HTAB HB); rintro e w29 ⟨rfl, hb⟩; refine ⟨_, rfl, ?_⟩; replace HB := bs_ HB hb; (try clear hb)) | ((with_reducible refine gate_callee (f := 19) rfl ?_); refine gl_ (some 54) rfl rfl Tryd.func19 (by kernel_rfl) rfl #[.int .i64 a0] rfl ?_; (with_reducible refine (salvorref1_Dec.calls k a0 t244 _ A13.out).mono ?_); rintro e w' ⟨rfl, ⟨nd, rfl⟩⟩; refine ⟨_, rfl, ?_⟩) | (go_at_call 11; (with_reducible refine (num_Hex.calls a0 t245 _ A15.out ?tb10_).mono ?_); (case tb10_ => exact tb_ HTAB HB); rintro e w30 ⟨rfl, hb⟩; replace HB := bs_ HB hb; (try clear hb)) | (go_at_call 20; (with_reducible refine (salvorref1_Hex.calls k a0 t246 _ A16.out).mono ?_); rintro e w' ⟨rfl, ⟨nd, rfl⟩⟩) | (go_at_call 3; (with_reducible refine (salvorlaw2_NumRuns.calls k  t247 _ A24.out ?tb12_).mono ?_); (case tb12_ => exact tb_ HTAB HB); rintro e w31 ⟨rfl, hb⟩; replace HB := bs_ HB hb; (try clear hb)))
          go_ret
          exact ⟨by first | rfl | (simp [errW_none, errW_some] <;> rfl) | (simp [*, errW_none, errW_some] <;> rfl), bh_ HB⟩
         ·rw [if_neg c23] at H
          have c23b0 : (t240 == t242) = false := by simpa using c23
          (try (have c23b1 : decide (t240 = t242) = false := by simpa using c23))
          (try (have c23b2 : (t240 == t242) = false := by simpa using c23))
          (try (have c23b3 : ¬ (t240 = t242) := by simpa using c23))
          clear c23
          exact absurd ((Option.some.inj H).trans HT.out) (by simp)
        ·rw [if_neg c22] at H
         have c22b0 : (t239 == t241) = false := beq_eq_false_iff_ne.mpr c22
         have c22b1 : (t239 != t241) = true := bne_iff_ne.mpr c22
         exact absurd ((Option.some.inj H).trans HT.out) (by simp)
       ·rw [if_neg c21] at H
        have c21b0 : (t236 == t238) = false := by simpa using c21
        (try (have c21b1 : decide (t236 = t238) = false := by simpa using c21))
        (try (have c21b2 : (t236 == t238) = false := by simpa using c21))
        (try (have c21b3 : ¬ (t236 = t238) := by simpa using c21))
        clear c21
        exact absurd ((Option.some.inj H).trans HT.out) (by simp)
      ·rw [if_neg c20] at H
       have c20b0 : (t235 == t237) = false := beq_eq_false_iff_ne.mpr c20
       have c20b1 : (t235 != t237) = true := bne_iff_ne.mpr c20
       exact absurd ((Option.some.inj H).trans HT.out) (by simp)
     ·rw [if_neg c19] at H
      have c19b0 : (t232 == t234) = false := by simpa using c19
      (try (have c19b1 : decide (t232 = t234) = false := by simpa using c19))
      (try (have c19b2 : (t232 == t234) = false := by simpa using c19))
      (try (have c19b3 : ¬ (t232 = t234) := by simpa using c19))
      clear c19
      exact absurd ((Option.some.inj H).trans HT.out) (by simp)
    ·rw [if_neg c18] at H
     have c18b0 : (t231 == t233) = false := beq_eq_false_iff_ne.mpr c18
     have c18b1 : (t231 != t233) = true := bne_iff_ne.mpr c18
     exact absurd ((Option.some.inj H).trans HT.out) (by simp)
   ·rw [if_neg c17] at H
    have c17b0 : (t245.toList == t246.toList) = false := beq_eq_false_iff_ne.mpr c17
    have c17b1 : (t245.toList != t246.toList) = true := bne_iff_ne.mpr c17
    exact absurd ((Option.some.inj H).trans HT.out) (by simp)
  ·rw [if_neg c14] at H
   have c14b0 : (t243.toList == t244.toList) = false := beq_eq_false_iff_ne.mpr c14
   have c14b1 : (t243.toList != t244.toList) = true := bne_iff_ne.mpr c14
   exact absurd ((Option.some.inj H).trans HT.out) (by simp)

end Go.Proofs.YtalcenfcknmchaaDoor.P
