/- Laid by a program of this session's own (wip/wprint.py, over the kit's print.py): functions of the given program as plain Lean functions, and that the program's calls come to their answers. -/
import Derived.Test.YtlcablcpcbmgeaaGreatDoorPx0
import Derived.Test.YtlcablcpcbmgeaaGreatDoorPx32
namespace Go.Proofs.YtlcablcpcbmgeaaGreatDoor.P
open Go.RowKit Go.Proofs.YtlcablcpcbmgeaaGreatDoorW.PrintWords Go.Proofs.YtlcablcpcbmgeaaGreatDoorW.PrintLast Go.Proofs.YtlcablcpcbmgeaaGreatDoorW.PrintMore
attribute [local go_sem] max2_int min2_int max_two min_two max_three min_three max_four min_four   -- for this text's walks alone
set_option linter.unusedVariables false
set_option linter.unusedSimpArgs false

/-! ### salvorref1_GetDec: function 46 -/
def salvorref1_GetDec.f (k : Nat) (a0 : ByteArray) : Option (Int × Bool) := if (a0.size : Int) > 1 then (if 0 < (a0.size : Int) then (if (bt a0 0) = 48 then (some (0, false)) else ((salvorref1_number.f k a0 10 19).bind fun bt241 => (some (bt241.1, bt241.2)))) else (none)) else ((salvorref1_number.f k a0 10 19).bind fun bt243 => (some (bt243.1, bt243.2)))
theorem salvorref1_GetDec.mono : ∀ a0 k, LeO (salvorref1_GetDec.f k a0) (salvorref1_GetDec.f (k + 1) a0) := by
 intro a0 k
 unfold salvorref1_GetDec.f
 repeat' first
   | (with_reducible exact salvorref1_number.mono _ _ _ _)
   | (with_reducible exact LeO.refl _)
   | (with_reducible exact LeO.none _)
   | (with_reducible refine LeO.ite ?_ ?_)
   | (with_reducible refine LeO.bind ?_ (fun _ => ?_))
   | exact salvorref1_number.mono _ _ _ _
   | exact LeO.none _
   | refine LeO.ite ?_ ?_
   | refine LeO.bind ?_ (fun _ => ?_)
set_option maxHeartbeats 8000000 in
set_option maxRecDepth 100000 in
theorem salvorref1_GetDec.calls (k : Nat) (a0 : ByteArray) (r1 : Int) (r2 : Bool) (w : World) (h : salvorref1_GetDec.f k a0 = some (r1, r2)) :
  Calls Tryz.prog 46 #[.string a0] w fun e w' => e = .returned (.tuple #[.int .i64 r1, .bool r2]) ∧ Drawn0 w w' := by
 have H : (if (a0.size : Int) > 1 then (if 0 < (a0.size : Int) then (if (bt a0 0) = 48 then (some (0, false)) else ((salvorref1_number.f k a0 10 19).bind fun bt241 => (some (bt241.1, bt241.2)))) else (none)) else ((salvorref1_number.f k a0 10 19).bind fun bt243 => (some (bt243.1, bt243.2)))) = some (r1, r2) := h
 clear h
 by_cases c2 : (a0.size : Int) > 1
 ·rw [if_pos c2] at H
  have c2b0 : decide (1 < (a0.size : Int)) = true := decide_eq_true c2
  have c2b1 : decide (1 < a0.size) = true := decide_eq_true (by omega)
  clear c2
  by_cases c3 : 0 < (a0.size : Int)
  ·rw [if_pos c3] at H
   have c3b0 : decide (0 < (a0.size : Int)) = true := decide_eq_true c3
   have c3b1 : decide (0 < a0.size) = true := decide_eq_true (by omega)
   clear c3
   by_cases c5 : (bt a0 0) = 48
   ·rw [if_pos c5] at H
    have c5b0 : ((bt a0 0) == 48) = true := beq_iff_eq.mpr c5
    have c5b1 : ((bt a0 0) != 48) = false := bne_eq_false_iff_eq.mpr c5
    clear c5
    simp only [Option.some.injEq, Prod.mk.injEq] at H
    obtain ⟨rfl, rfl⟩ := H
    have p4 : 0 ≤ (0 : Int) := (by omega)
    have q4 : 0 < a0.size := (by have : (0 : Int) < (a0.size : Int) := of_decide_eq_true (by first | (with_reducible assumption) | assumption); omega)
    have hx4 : ∀ h : 0 < a0.size, ((a0[0]'h).toNat : Int) = bt a0 0 := bt_at a0 0
    clear p4
    have qi4 : (0 < (a0.size : Int)) = True := eq_true (of_decide_eq_true (by first | (with_reducible assumption) | assumption))
    replace q4 := eq_true q4
    go_enter Tryz.func46, Tryz.ntmps46
    go_wp2
    go_ret2
    exact ⟨by first | rfl | (simp; done) | (simp [*]; done), by repeat (first | exact Drawn0.refl _ | apply Drawn0.step)⟩
   ·rw [if_neg c5] at H
    have c5b0 : ((bt a0 0) == 48) = false := beq_eq_false_iff_ne.mpr c5
    have c5b1 : ((bt a0 0) != 48) = true := bne_iff_ne.mpr c5
    replace H := Option.bind_eq_some_iff.mp H
    obtain ⟨⟨t241, t242⟩, A60, H⟩ := H
    replace H : (some (t241, t242)) = some (r1, r2) := H
    have A6 := Aside0.mk A60
    clear A60
    simp only [Option.some.injEq, Prod.mk.injEq] at H
    obtain ⟨rfl, rfl⟩ := H
    have p4 : 0 ≤ (0 : Int) := (by omega)
    have q4 : 0 < a0.size := (by have : (0 : Int) < (a0.size : Int) := of_decide_eq_true (by first | (with_reducible assumption) | assumption); omega)
    have hx4 : ∀ h : 0 < a0.size, ((a0[0]'h).toNat : Int) = bt a0 0 := bt_at a0 0
    clear p4
    have qi4 : (0 < (a0.size : Int)) = True := eq_true (of_decide_eq_true (by first | (with_reducible assumption) | assumption))
    replace q4 := eq_true q4
    go_enter Tryz.func46, Tryz.ntmps46
    go_wp2_with (first | ((with_reducible refine gate_callee (f := 67) rfl ?_); refine gl_ (some 13) rfl rfl Tryz.func67 (by kernel_rfl) rfl #[.string a0, .int .u64 10, .int .i64 19] rfl ?_; (with_reducible refine (salvorref1_number.calls k a0 10 19 t241 t242 _ A6.out).mono ?_); rintro e w' ⟨rfl, ⟨nd, rfl⟩⟩; refine ⟨_, rfl, ?_⟩))
    go_ret2
    exact ⟨by first | rfl | (simp; done) | (simp [*]; done), by repeat (first | exact Drawn0.refl _ | apply Drawn0.step)⟩
  ·rw [if_neg c3] at H
   exact absurd H (by simp)
 ·rw [if_neg c2] at H
  have c2b0 : decide (1 < (a0.size : Int)) = false := decide_eq_false c2
  have c2b1 : decide (1 < a0.size) = false := decide_eq_false (by omega)
  clear c2
  replace H := Option.bind_eq_some_iff.mp H
  obtain ⟨⟨t243, t244⟩, A70, H⟩ := H
  replace H : (some (t243, t244)) = some (r1, r2) := H
  have A7 := Aside0.mk A70
  clear A70
  simp only [Option.some.injEq, Prod.mk.injEq] at H
  obtain ⟨rfl, rfl⟩ := H
  go_enter Tryz.func46, Tryz.ntmps46
  go_wp2_with (first | ((with_reducible refine gate_callee (f := 67) rfl ?_); refine gl_ (some 13) rfl rfl Tryz.func67 (by kernel_rfl) rfl #[.string a0, .int .u64 10, .int .i64 19] rfl ?_; (with_reducible refine (salvorref1_number.calls k a0 10 19 t243 t244 _ A7.out).mono ?_); rintro e w' ⟨rfl, ⟨nd, rfl⟩⟩; refine ⟨_, rfl, ?_⟩))
  go_ret2
  exact ⟨by first | rfl | (simp; done) | (simp [*]; done), by repeat (first | exact Drawn0.refl _ | apply Drawn0.step)⟩

/-! ### salvorref1_GetHex: function 66 -/
def salvorref1_GetHex.f (k : Nat) (a0 : ByteArray) : Option (Int × Bool) := if (a0.size : Int) < 2 then (some (0, false)) else (if 0 ≤ 2 then (if 2 ≤ (a0.size : Int) then (if (a0.extract 0 2).toList = ([48, 120] : List UInt8) then ((salvorref1_number.f k (a0.extract 2 a0.size) 16 16).bind fun bt245 => (some (bt245.1, bt245.2))) else (some (0, false))) else (none)) else (none))
theorem salvorref1_GetHex.mono : ∀ a0 k, LeO (salvorref1_GetHex.f k a0) (salvorref1_GetHex.f (k + 1) a0) := by
 intro a0 k
 unfold salvorref1_GetHex.f
 repeat' first
   | (with_reducible exact salvorref1_number.mono _ _ _ _)
   | (with_reducible exact LeO.refl _)
   | (with_reducible exact LeO.none _)
   | (with_reducible refine LeO.ite ?_ ?_)
   | (with_reducible refine LeO.bind ?_ (fun _ => ?_))
   | exact salvorref1_number.mono _ _ _ _
   | exact LeO.none _
   | refine LeO.ite ?_ ?_
   | refine LeO.bind ?_ (fun _ => ?_)
set_option maxHeartbeats 8000000 in
set_option maxRecDepth 100000 in
theorem salvorref1_GetHex.calls (k : Nat) (a0 : ByteArray) (r1 : Int) (r2 : Bool) (w : World) (h : salvorref1_GetHex.f k a0 = some (r1, r2)) :
  Calls Tryz.prog 66 #[.string a0] w fun e w' => e = .returned (.tuple #[.int .i64 r1, .bool r2]) ∧ Drawn0 w w' := by
 have H : (if (a0.size : Int) < 2 then (some (0, false)) else (if 0 ≤ 2 then (if 2 ≤ (a0.size : Int) then (if (a0.extract 0 2).toList = ([48, 120] : List UInt8) then ((salvorref1_number.f k (a0.extract 2 a0.size) 16 16).bind fun bt245 => (some (bt245.1, bt245.2))) else (some (0, false))) else (none)) else (none))) = some (r1, r2) := h
 clear h
 by_cases c2 : (a0.size : Int) < 2
 ·rw [if_pos c2] at H
  have c2b0 : decide ((a0.size : Int) < 2) = true := decide_eq_true c2
  have c2b1 : decide (a0.size < 2) = true := decide_eq_true (by omega)
  clear c2
  simp only [Option.some.injEq, Prod.mk.injEq] at H
  obtain ⟨rfl, rfl⟩ := H
  go_enter Tryz.func66, Tryz.ntmps66
  go_wp2
  go_ret2
  exact ⟨by first | rfl | (simp; done) | (simp [*]; done), by repeat (first | exact Drawn0.refl _ | apply Drawn0.step)⟩
 ·rw [if_neg c2] at H
  have c2b0 : decide ((a0.size : Int) < 2) = false := decide_eq_false c2
  have c2b1 : decide (a0.size < 2) = false := decide_eq_false (by omega)
  clear c2
  by_cases c3 : 0 ≤ 2
  ·rw [if_pos c3] at H
   have c3b0 := eq_true c3
   have c3b1 : decide (0 ≤ 2) = true := decide_eq_true c3
   clear c3
   by_cases c4 : 2 ≤ (a0.size : Int)
   ·rw [if_pos c4] at H
    have c4b0 := eq_true c4
    have c4b1 : decide (2 ≤ (a0.size : Int)) = true := decide_eq_true c4
    clear c4
    by_cases c5 : (a0.extract 0 2).toList = ([48, 120] : List UInt8)
    ·rw [if_pos c5] at H
     have c5b0 : ((a0.extract 0 2).toList == ([48, 120] : List UInt8)) = true := beq_iff_eq.mpr c5
     have c5b1 : ((a0.extract 0 2).toList != ([48, 120] : List UInt8)) = false := bne_eq_false_iff_eq.mpr c5
     clear c5
     have c6b0 := eq_true (of_decide_eq_true (by first | (with_reducible assumption) | assumption) : 2 ≤ (a0.size : Int))
     replace H := Option.bind_eq_some_iff.mp H
     obtain ⟨⟨t245, t246⟩, A70, H⟩ := H
     replace H : (some (t245, t246)) = some (r1, r2) := H
     have A7 := Aside0.mk A70
     clear A70
     simp only [Option.some.injEq, Prod.mk.injEq] at H
     obtain ⟨rfl, rfl⟩ := H
     go_enter Tryz.func66, Tryz.ntmps66
     go_wp2_with (first | ((with_reducible refine gate_callee (f := 67) rfl ?_); refine gl_ (some 14) rfl rfl Tryz.func67 (by kernel_rfl) rfl #[.string (a0.extract 2 a0.size), .int .u64 16, .int .i64 16] rfl ?_; (with_reducible refine (salvorref1_number.calls k (a0.extract 2 a0.size) 16 16 t245 t246 _ A7.out).mono ?_); rintro e w' ⟨rfl, ⟨nd, rfl⟩⟩; refine ⟨_, rfl, ?_⟩))
     go_ret2
     exact ⟨by first | rfl | (simp; done) | (simp [*]; done), by repeat (first | exact Drawn0.refl _ | apply Drawn0.step)⟩
    ·rw [if_neg c5] at H
     have c5b0 : ((a0.extract 0 2).toList == ([48, 120] : List UInt8)) = false := beq_eq_false_iff_ne.mpr c5
     have c5b1 : ((a0.extract 0 2).toList != ([48, 120] : List UInt8)) = true := bne_iff_ne.mpr c5
     simp only [Option.some.injEq, Prod.mk.injEq] at H
     obtain ⟨rfl, rfl⟩ := H
     go_enter Tryz.func66, Tryz.ntmps66
     go_wp2
     go_ret2
     exact ⟨by first | rfl | (simp; done) | (simp [*]; done), by repeat (first | exact Drawn0.refl _ | apply Drawn0.step)⟩
   ·rw [if_neg c4] at H
    exact absurd H (by simp)
  ·rw [if_neg c3] at H
   exact absurd H (by simp)

/-! ### salvorref16_place: function 45 -/
def salvorref16_place.f (k : Nat) (a0 : ByteArray) : Option (Int × Bool) := (salvorref1_GetHex.f k a0).bind fun bt247 => (if bt247.2 = true then (some (bt247.1, bt247.2)) else ((salvorref1_GetDec.f k a0).bind fun bt249 => (some (bt249.1, bt249.2))))
theorem salvorref16_place.mono : ∀ a0 k, LeO (salvorref16_place.f k a0) (salvorref16_place.f (k + 1) a0) := by
  intro a0 k
  unfold salvorref16_place.f
  repeat' first
      | (with_reducible exact salvorref1_GetDec.mono _ _)
      | (with_reducible exact salvorref1_GetHex.mono _ _)
      | (with_reducible exact LeO.refl _)
      | (with_reducible exact LeO.none _)
      | (with_reducible refine LeO.ite ?_ ?_)
      | (with_reducible refine LeO.bind ?_ (fun _ => ?_))
      | exact salvorref1_GetDec.mono _ _
      | exact salvorref1_GetHex.mono _ _
      | exact LeO.none _
      | refine LeO.ite ?_ ?_
      | refine LeO.bind ?_ (fun _ => ?_)
set_option maxHeartbeats 8000000 in
set_option maxRecDepth 100000 in
theorem salvorref16_place.calls (k : Nat) (a0 : ByteArray) (r1 : Int) (r2 : Bool) (w : World) (h : salvorref16_place.f k a0 = some (r1, r2)) :
    Calls Tryz.prog 45 #[.string a0] w fun e w' => e = .returned (.tuple #[.int .i64 r1, .bool r2]) ∧ Drawn0 w w' := by
  have H : ((salvorref1_GetHex.f k a0).bind fun bt247 => (if bt247.2 = true then (some (bt247.1, bt247.2)) else ((salvorref1_GetDec.f k a0).bind fun bt249 => (some (bt249.1, bt249.2))))) = some (r1, r2) := h
  clear h
  replace H := Option.bind_eq_some_iff.mp H
  obtain ⟨⟨t247, t248⟩, A20, H⟩ := H
  replace H : (if t248 = true then (some (t247, t248)) else ((salvorref1_GetDec.f k a0).bind fun bt249 => (some (bt249.1, bt249.2)))) = some (r1, r2) := H
  have A2 := Aside0.mk A20
  clear A20
  by_cases c3 : t248 = true
  · subst c3
    have H1 : (some (t247, true)) = some (r1, r2) := by rw [if_pos rfl] at H; exact H
    clear H
    have H := H1
    clear H1
    simp only [Option.some.injEq, Prod.mk.injEq] at H
    obtain ⟨rfl, rfl⟩ := H
    go_enter Tryz.func45, Tryz.ntmps45
    go_wp2_with (first | ((with_reducible refine gate_callee (f := 66) rfl ?_); refine gl_ (some 8) rfl rfl Tryz.func66 (by kernel_rfl) rfl #[.string a0] rfl ?_; (with_reducible refine (salvorref1_GetHex.calls k a0 t247 true _ A2.out).mono ?_); rintro e w' ⟨rfl, ⟨nd, rfl⟩⟩; refine ⟨_, rfl, ?_⟩))
    go_ret2
    exact ⟨by first | rfl | (simp; done) | (simp [*]; done), by repeat (first | exact Drawn0.refl _ | apply Drawn0.step)⟩
  · replace c3 := Bool.eq_false_iff.mpr c3
    subst c3
    have H1 : ((salvorref1_GetDec.f k a0).bind fun bt249 => (some (bt249.1, bt249.2))) = some (r1, r2) := by rw [if_neg (show ¬ (false = true) by decide)] at H; exact H
    clear H
    have H := H1
    clear H1
    replace H := Option.bind_eq_some_iff.mp H
    obtain ⟨⟨t249, t250⟩, A40, H⟩ := H
    replace H : (some (t249, t250)) = some (r1, r2) := H
    have A4 := Aside0.mk A40
    clear A40
    simp only [Option.some.injEq, Prod.mk.injEq] at H
    obtain ⟨rfl, rfl⟩ := H
    go_enter Tryz.func45, Tryz.ntmps45
    go_wp2_with (first | ((with_reducible refine gate_callee (f := 66) rfl ?_); refine gl_ (some 8) rfl rfl Tryz.func66 (by kernel_rfl) rfl #[.string a0] rfl ?_; (with_reducible refine (salvorref1_GetHex.calls k a0 t247 false _ A2.out).mono ?_); rintro e w' ⟨rfl, ⟨nd, rfl⟩⟩; refine ⟨_, rfl, ?_⟩) | ((with_reducible refine gate_callee (f := 46) rfl ?_); refine gl_ (some 15) rfl rfl Tryz.func46 (by kernel_rfl) rfl #[.string a0] rfl ?_; (with_reducible refine (salvorref1_GetDec.calls k a0 t249 t250 _ A4.out).mono ?_); rintro e w' ⟨rfl, ⟨nd, rfl⟩⟩; refine ⟨_, rfl, ?_⟩))
    go_ret2
    exact ⟨by first | rfl | (simp; done) | (simp [*]; done), by repeat (first | exact Drawn0.refl _ | apply Drawn0.step)⟩

end Go.Proofs.YtlcablcpcbmgeaaGreatDoor.P
