/- Laid by a program of this session's own (wip/wprint.py, over the kit's print.py): functions of the given program as plain Lean functions, and that the program's calls come to their answers. -/
import Derived.Test.YtlcablcpcbmgeaaGreatDoorPx0
namespace Go.Proofs.YtlcablcpcbmgeaaGreatDoor.P
open Go.RowKit Go.Proofs.YtlcablcpcbmgeaaGreatDoorW.PrintWords Go.Proofs.YtlcablcpcbmgeaaGreatDoorW.PrintLast Go.Proofs.YtlcablcpcbmgeaaGreatDoorW.PrintMore
attribute [local go_sem] max2_int min2_int max_two min_two max_three min_three max_four min_four   -- for this text's walks alone
set_option linter.unusedVariables false
set_option linter.unusedSimpArgs false

/-! ### region_Is: function 37 -/
def region_Is.f (a0 : Int) : Option (Bool) := if a0 = 63 then (some true) else (if a0 = 42 then (some true) else (if a0 = 47 then (some true) else (if a0 = 45 then (some true) else (if a0 = 43 then (some true) else (some false)))))
set_option maxHeartbeats 8000000 in
set_option maxRecDepth 100000 in
theorem region_Is.calls (a0 : Int) (r : Bool) (w : World) (h : region_Is.f a0 = some r) :
  Calls Tryz.prog 37 #[.int .u8 a0] w fun e w' => e = .returned (.bool r) ∧ Drawn0 w w' := by
 have H : (if a0 = 63 then (some true) else (if a0 = 42 then (some true) else (if a0 = 47 then (some true) else (if a0 = 45 then (some true) else (if a0 = 43 then (some true) else (some false)))))) = some r := h
 clear h
 by_cases c2 : a0 = 63
 ·rw [if_pos c2] at H
  have c2b0 : (a0 == 63) = true := beq_iff_eq.mpr c2
  have c2b1 : (a0 != 63) = false := bne_eq_false_iff_eq.mpr c2
  clear c2
  obtain rfl := Option.some.inj H
  go_enter Tryz.func37, Tryz.ntmps37
  go_wp2
  go_ret
  exact ⟨by first | rfl | (simp; done) | (simp [*]; done), by repeat (first | exact Drawn0.refl _ | apply Drawn0.step)⟩
 ·rw [if_neg c2] at H
  have c2b0 : (a0 == 63) = false := beq_eq_false_iff_ne.mpr c2
  have c2b1 : (a0 != 63) = true := bne_iff_ne.mpr c2
  by_cases c3 : a0 = 42
  ·rw [if_pos c3] at H
   have c3b0 : (a0 == 42) = true := beq_iff_eq.mpr c3
   have c3b1 : (a0 != 42) = false := bne_eq_false_iff_eq.mpr c3
   clear c3
   obtain rfl := Option.some.inj H
   go_enter Tryz.func37, Tryz.ntmps37
   go_wp2
   go_ret
   exact ⟨by first | rfl | (simp; done) | (simp [*]; done), by repeat (first | exact Drawn0.refl _ | apply Drawn0.step)⟩
  ·rw [if_neg c3] at H
   have c3b0 : (a0 == 42) = false := beq_eq_false_iff_ne.mpr c3
   have c3b1 : (a0 != 42) = true := bne_iff_ne.mpr c3
   by_cases c4 : a0 = 47
   ·rw [if_pos c4] at H
    have c4b0 : (a0 == 47) = true := beq_iff_eq.mpr c4
    have c4b1 : (a0 != 47) = false := bne_eq_false_iff_eq.mpr c4
    clear c4
    obtain rfl := Option.some.inj H
    go_enter Tryz.func37, Tryz.ntmps37
    go_wp2
    go_ret
    exact ⟨by first | rfl | (simp; done) | (simp [*]; done), by repeat (first | exact Drawn0.refl _ | apply Drawn0.step)⟩
   ·rw [if_neg c4] at H
    have c4b0 : (a0 == 47) = false := beq_eq_false_iff_ne.mpr c4
    have c4b1 : (a0 != 47) = true := bne_iff_ne.mpr c4
    by_cases c5 : a0 = 45
    ·rw [if_pos c5] at H
     have c5b0 : (a0 == 45) = true := beq_iff_eq.mpr c5
     have c5b1 : (a0 != 45) = false := bne_eq_false_iff_eq.mpr c5
     clear c5
     obtain rfl := Option.some.inj H
     go_enter Tryz.func37, Tryz.ntmps37
     go_wp2
     go_ret
     exact ⟨by first | rfl | (simp; done) | (simp [*]; done), by repeat (first | exact Drawn0.refl _ | apply Drawn0.step)⟩
    ·rw [if_neg c5] at H
     have c5b0 : (a0 == 45) = false := beq_eq_false_iff_ne.mpr c5
     have c5b1 : (a0 != 45) = true := bne_iff_ne.mpr c5
     by_cases c6 : a0 = 43
     ·rw [if_pos c6] at H
      have c6b0 : (a0 == 43) = true := beq_iff_eq.mpr c6
      have c6b1 : (a0 != 43) = false := bne_eq_false_iff_eq.mpr c6
      clear c6
      obtain rfl := Option.some.inj H
      go_enter Tryz.func37, Tryz.ntmps37
      go_wp2
      go_ret
      exact ⟨by first | rfl | (simp; done) | (simp [*]; done), by repeat (first | exact Drawn0.refl _ | apply Drawn0.step)⟩
     ·rw [if_neg c6] at H
      have c6b0 : (a0 == 43) = false := beq_eq_false_iff_ne.mpr c6
      have c6b1 : (a0 != 43) = true := bne_iff_ne.mpr c6
      obtain rfl := Option.some.inj H
      go_enter Tryz.func37, Tryz.ntmps37
      go_wp2
      go_ret
      exact ⟨by first | rfl | (simp; done) | (simp [*]; done), by repeat (first | exact Drawn0.refl _ | apply Drawn0.step)⟩

end Go.Proofs.YtlcablcpcbmgeaaGreatDoor.P
