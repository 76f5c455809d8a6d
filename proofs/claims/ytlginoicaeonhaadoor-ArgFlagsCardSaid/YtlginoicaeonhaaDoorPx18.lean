/- Laid by a program of this session's own (wip/wprint.py, over the kit's print.py): functions of the given program as plain Lean functions, and that the program's calls come to their answers. -/
import Derived.Test.YtlginoicaeonhaaDoorPx0
namespace Go.Proofs.YtlginoicaeonhaaDoor.P
open Go.RowKit Go.Proofs.YtlginoicaeonhaaDoorW.PrintWords Go.Proofs.YtlginoicaeonhaaDoorW.PrintLast Go.Proofs.YtlginoicaeonhaaDoorW.PrintMore
attribute [local go_sem] max2_int min2_int max_two min_two max_three min_three max_four min_four   -- for this text's walks alone
set_option linter.unusedVariables false
set_option linter.unusedSimpArgs false

/-! ### salvorref6_mayspec: function 31 -/
mutual
def salvorref6_mayspec.l0 : Nat → ByteArray → Int → Option (Bool)
 | 0, _, _ => none
 | k + 1, x0, x3 => if x3 < (x0.size : Int) then (if 0 ≤ x3 then (if (bt x0 x3) = 58 then (if x3 = 0 then (some false) else (if 0 ≤ (wrap64 (x3 - 1)) then (if (wrap64 (x3 - 1)) < (x0.size : Int) then (if (bt x0 (wrap64 (x3 - 1))) = 58 then (some false) else (salvorref6_mayspec.l0 k x0 (wrap64 (x3 + 1)))) else (none)) else (none))) else (if (bt x0 x3) < 97 then (if (bt x0 x3) < 65 then (salvorref6_mayspec.j1 k x0 x3 true) else (salvorref6_mayspec.j1 k x0 x3 (decide ((bt x0 x3) > 90)))) else (if (bt x0 x3) > 122 then (if (bt x0 x3) < 65 then (salvorref6_mayspec.j1 k x0 x3 true) else (salvorref6_mayspec.j1 k x0 x3 (decide ((bt x0 x3) > 90)))) else (salvorref6_mayspec.j1 k x0 x3 false)))) else (none)) else (some true)
def salvorref6_mayspec.j1 : Nat → ByteArray → Int → Bool → Option (Bool)
 | 0, _, _, _ => none
 | k + 1, x0, x3, x45 => if x45 = true then (some false) else (salvorref6_mayspec.l1 k x0 x3 0)
def salvorref6_mayspec.l1 : Nat → ByteArray → Int → Int → Option (Bool)
 | 0, _, _, _ => none
 | k + 1, x0, x3, x4 => if x4 < x3 then (if 0 ≤ x4 then (if x4 < (x0.size : Int) then (if 0 ≤ x3 then (if x3 < (x0.size : Int) then (if (bt x0 x4) = (bt x0 x3) then (some false) else (salvorref6_mayspec.l1 k x0 x3 (wrap64 (x4 + 1)))) else (none)) else (none)) else (none)) else (none)) else (salvorref6_mayspec.l0 k x0 (wrap64 (x3 + 1)))
end
def salvorref6_mayspec.f (k : Nat) (a0 : ByteArray) : Option (Bool) := salvorref6_mayspec.l0 k a0 0
theorem salvorref6_mayspec.mono_l : ∀ k, (∀ y0 y1, LeO (salvorref6_mayspec.l0 k y0 y1) (salvorref6_mayspec.l0 (k + 1) y0 y1)) ∧ (∀ y0 y1 y2, LeO (salvorref6_mayspec.j1 k y0 y1 y2) (salvorref6_mayspec.j1 (k + 1) y0 y1 y2)) ∧ (∀ y0 y1 y2, LeO (salvorref6_mayspec.l1 k y0 y1 y2) (salvorref6_mayspec.l1 (k + 1) y0 y1 y2))
 | 0 => ⟨fun _ _ r h => by simp [salvorref6_mayspec.l0] at h, fun _ _ _ r h => by simp [salvorref6_mayspec.j1] at h, fun _ _ _ r h => by simp [salvorref6_mayspec.l1] at h⟩
 | k + 1 => by
  obtain ⟨ih0, ih1, ih2⟩ := salvorref6_mayspec.mono_l k
  refine ⟨?_, ?_, ?_⟩
  ·intro y0 y1
   unfold salvorref6_mayspec.l0
   repeat' first
   | (with_reducible exact ih0 _ _)
   | (with_reducible exact ih1 _ _ _)
   | (with_reducible exact ih2 _ _ _)
   | (with_reducible exact LeO.refl _)
   | (with_reducible exact LeO.none _)
   | (with_reducible refine LeO.ite ?_ ?_)
   | (with_reducible refine LeO.bind ?_ (fun _ => ?_))
   | exact ih0 _ _
   | exact ih1 _ _ _
   | exact ih2 _ _ _
   | exact LeO.none _
   | refine LeO.ite ?_ ?_
   | refine LeO.bind ?_ (fun _ => ?_)
  ·intro y0 y1 y2
   unfold salvorref6_mayspec.j1
   repeat' first
   | (with_reducible exact ih0 _ _)
   | (with_reducible exact ih1 _ _ _)
   | (with_reducible exact ih2 _ _ _)
   | (with_reducible exact LeO.refl _)
   | (with_reducible exact LeO.none _)
   | (with_reducible refine LeO.ite ?_ ?_)
   | (with_reducible refine LeO.bind ?_ (fun _ => ?_))
   | exact ih0 _ _
   | exact ih1 _ _ _
   | exact ih2 _ _ _
   | exact LeO.none _
   | refine LeO.ite ?_ ?_
   | refine LeO.bind ?_ (fun _ => ?_)
  ·intro y0 y1 y2
   unfold salvorref6_mayspec.l1
   repeat' first
   | (with_reducible exact ih0 _ _)
   | (with_reducible exact ih1 _ _ _)
   | (with_reducible exact ih2 _ _ _)
   | (with_reducible exact LeO.refl _)
   | (with_reducible exact LeO.none _)
   | (with_reducible refine LeO.ite ?_ ?_)
   | (with_reducible refine LeO.bind ?_ (fun _ => ?_))
   | exact ih0 _ _
   | exact ih1 _ _ _
   | exact ih2 _ _ _
   | exact LeO.none _
   | refine LeO.ite ?_ ?_
   | refine LeO.bind ?_ (fun _ => ?_)
theorem salvorref6_mayspec.mono : ∀ a0 k, LeO (salvorref6_mayspec.f k a0) (salvorref6_mayspec.f (k + 1) a0) := by
 intro a0 k
 obtain ⟨ih0, ih1, ih2⟩ := salvorref6_mayspec.mono_l k
 unfold salvorref6_mayspec.f
 repeat' first
   | (with_reducible exact ih0 _ _)
   | (with_reducible exact ih1 _ _ _)
   | (with_reducible exact ih2 _ _ _)
   | (with_reducible exact LeO.refl _)
   | (with_reducible exact LeO.none _)
   | (with_reducible refine LeO.ite ?_ ?_)
   | (with_reducible refine LeO.bind ?_ (fun _ => ?_))
   | exact ih0 _ _
   | exact ih1 _ _ _
   | exact ih2 _ _ _
   | exact LeO.none _
   | refine LeO.ite ?_ ?_
   | refine LeO.bind ?_ (fun _ => ?_)
set_option maxHeartbeats 8000000 in
set_option maxRecDepth 100000 in
theorem salvorref6_mayspec.calls (k : Nat) (a0 : ByteArray) (r : Bool) (w : World) (h : salvorref6_mayspec.f k a0 = some r) :
  Calls Tryd.prog 31 #[.string a0] w fun e w' => e = .returned (.bool r) ∧ Drawn0 w w' := by
 have H : (salvorref6_mayspec.l0 k a0 0) = some r := h
 clear h
 have H' := Aside0.mk H
 clear H
 go_enter Tryd.func31, Tryd.ntmps31
 go_wp2
 repeat (go_quiet (fail); try go_wp2)
 go_loopg [3] k (fun kq v3 w' => ∃ (x3_1 : Int), v3 = .int .i64 x3_1 ∧ Aside0 (salvorref6_mayspec.l0 kq a0 x3_1 = some r) ∧ Aside0 (kq ≤ k) ∧ Drawn0 w w')
 case atStart => exact ⟨(0), (by first | rfl | (simp; done) | (simp [*]; done)), H', ⟨Nat.le_refl _⟩, by repeat (first | exact Drawn0.refl _ | apply Drawn0.step)⟩
 case round =>
  clear H'
  obtain ⟨x3_1, rfl, HA, HK1, ⟨m1, rfl⟩⟩ := hrel
  cases gk with
  | zero => exact absurd HA.out (by simp [salvorref6_mayspec.l0])
  | succ k1 =>
   have H := HA.out
   clear HA
   simp only [salvorref6_mayspec.l0] at H
   by_cases c2 : x3_1 < (a0.size : Int)
   ·rw [if_pos c2] at H
    have c2b0 : decide (x3_1 < (a0.size : Int)) = true := decide_eq_true c2
    clear c2
    by_cases c3 : 0 ≤ x3_1
    ·rw [if_pos c3] at H
     have c3b0 : decide (0 ≤ x3_1) = true := decide_eq_true c3
     clear c3
     by_cases c5 : (bt a0 x3_1) = 58
     ·rw [if_pos c5] at H
      have c5b0 : ((bt a0 x3_1) == 58) = true := beq_iff_eq.mpr c5
      have c5b1 : ((bt a0 x3_1) != 58) = false := bne_eq_false_iff_eq.mpr c5
      clear c5
      by_cases c6 : x3_1 = 0
      ·rw [if_pos c6] at H
       have c6b0 : (x3_1 == 0) = true := beq_iff_eq.mpr c6
       have c6b1 : (x3_1 != 0) = false := bne_eq_false_iff_eq.mpr c6
       clear c6
       obtain rfl := Option.some.inj H
       have p4 : 0 ≤ (x3_1 : Int) := of_decide_eq_true (by first | (with_reducible assumption) | assumption)
       have q4 : x3_1 < (a0.size : Int) := of_decide_eq_true (by first | (with_reducible assumption) | assumption)
       have hx4 := bt_at a0 x3_1
       replace p4 := eq_true p4
       replace q4 := eq_true q4
       go_wp2
       repeat (go_quiet (fail); try go_wp2)
       go_ret
       exact ⟨by first | rfl | (simp; done) | (simp [*]; done), by repeat (first | exact Drawn0.refl _ | apply Drawn0.step)⟩
      ·rw [if_neg c6] at H
       have c6b0 : (x3_1 == 0) = false := beq_eq_false_iff_ne.mpr c6
       have c6b1 : (x3_1 != 0) = true := bne_iff_ne.mpr c6
       obtain ⟨ji7, hji7⟩ : ∃ j_ : Int, (wrap64 (x3_1 - 1)) = j_ := ⟨_, rfl⟩
       replace H : (if 0 ≤ (ji7) then (if (ji7) < (a0.size : Int) then (if (bt a0 (ji7)) = 58 then (some false) else (salvorref6_mayspec.l0 k1 a0 (wrap64 (x3_1 + 1)))) else (none)) else (none)) = some r := by first | (rw [hji7] at H; exact H) | (simp only [hji7] at H ⊢; exact H)
       have hji7w : (IntKind.i64.wrap (x3_1 - 1)) = ji7 := (i64_w _).trans hji7
       by_cases c8 : 0 ≤ (ji7)
       ·rw [if_pos c8] at H
        have c8b0 : decide (0 ≤ (ji7)) = true := decide_eq_true c8
        clear c8
        by_cases c9 : (ji7) < (a0.size : Int)
        ·rw [if_pos c9] at H
         have c9b0 : decide ((ji7) < (a0.size : Int)) = true := decide_eq_true c9
         clear c9
         by_cases c11 : (bt a0 (ji7)) = 58
         ·rw [if_pos c11] at H
          have c11b0 : ((bt a0 (ji7)) == 58) = true := beq_iff_eq.mpr c11
          have c11b1 : ((bt a0 (ji7)) != 58) = false := bne_eq_false_iff_eq.mpr c11
          clear c11
          obtain rfl := Option.some.inj H
          have p4 : 0 ≤ (x3_1 : Int) := of_decide_eq_true (by first | (with_reducible assumption) | assumption)
          have q4 : x3_1 < (a0.size : Int) := of_decide_eq_true (by first | (with_reducible assumption) | assumption)
          have hx4 := bt_at a0 x3_1
          replace p4 := eq_true p4
          replace q4 := eq_true q4
          have p10 : 0 ≤ ((ji7) : Int) := of_decide_eq_true (by first | (with_reducible assumption) | assumption)
          have q10 : (ji7) < (a0.size : Int) := of_decide_eq_true (by first | (with_reducible assumption) | assumption)
          have hx10 := bt_at a0 (ji7)
          replace p10 := eq_true p10
          replace q10 := eq_true q10
          go_wp2
          repeat (go_quiet (fail); try go_wp2)
          go_ret
          exact ⟨by first | rfl | (simp; done) | (simp only [← hji7] <;> (first | rfl | simp)) | (simp [*]; done), by repeat (first | exact Drawn0.refl _ | apply Drawn0.step)⟩
         ·rw [if_neg c11] at H
          have c11b0 : ((bt a0 (ji7)) == 58) = false := beq_eq_false_iff_ne.mpr c11
          have c11b1 : ((bt a0 (ji7)) != 58) = true := bne_iff_ne.mpr c11
          have H' := Aside0.mk H
          clear H
          have p4 : 0 ≤ (x3_1 : Int) := of_decide_eq_true (by first | (with_reducible assumption) | assumption)
          have q4 : x3_1 < (a0.size : Int) := of_decide_eq_true (by first | (with_reducible assumption) | assumption)
          have hx4 := bt_at a0 x3_1
          replace p4 := eq_true p4
          replace q4 := eq_true q4
          have p10 : 0 ≤ ((ji7) : Int) := of_decide_eq_true (by first | (with_reducible assumption) | assumption)
          have q10 : (ji7) < (a0.size : Int) := of_decide_eq_true (by first | (with_reducible assumption) | assumption)
          have hx10 := bt_at a0 (ji7)
          replace p10 := eq_true p10
          replace q10 := eq_true q10
          go_wp2
          repeat (go_quiet (fail); try go_wp2)
          go_roundg k1
          case measure => have := HK1.out; omega
          case rel => exact ⟨(wrap64 (x3_1 + 1)), (by first | rfl | (simp; done) | (simp [*]; done)), H', ⟨by have := HK1.out; omega⟩, by repeat (first | exact Drawn0.refl _ | apply Drawn0.step)⟩
        ·rw [if_neg c9] at H
         exact absurd H (by simp)
       ·rw [if_neg c8] at H
        exact absurd H (by simp)
     ·rw [if_neg c5] at H
      have c5b0 : ((bt a0 x3_1) == 58) = false := beq_eq_false_iff_ne.mpr c5
      have c5b1 : ((bt a0 x3_1) != 58) = true := bne_iff_ne.mpr c5
      have HC12 := Aside0.mk H
      clear H
      have p4 : 0 ≤ (x3_1 : Int) := of_decide_eq_true (by first | (with_reducible assumption) | assumption)
      have q4 : x3_1 < (a0.size : Int) := of_decide_eq_true (by first | (with_reducible assumption) | assumption)
      have hx4 := bt_at a0 x3_1
      replace p4 := eq_true p4
      replace q4 := eq_true q4
      go_upto_region 7 with (fail)
      repeat (go_quiet (fail); go_upto_region 7 with (fail))
      go_cut [45] (fun v45 wc => ∃ (kq : Nat) (x45_11 : Bool), v45 = .bool x45_11 ∧ Aside0 (salvorref6_mayspec.j1 kq a0 x3_1 x45_11 = some r) ∧ Aside0 (kq ≤ k1) ∧ Drawn0 w wc)
      case first =>
       have H := HC12.out
       clear HC12
       by_cases c14 : (bt a0 x3_1) < 97
       ·rw [if_pos c14] at H
        have c14b0 : decide ((bt a0 x3_1) < 97) = true := decide_eq_true c14
        clear c14
        (first | rw [c14b0] | (simp only [i64_w, i32_w]; rw [c14b0]) | skip)
        by_cases c16 : (bt a0 x3_1) < 65
        ·rw [if_pos c16] at H
         have c16b0 : decide ((bt a0 x3_1) < 65) = true := decide_eq_true c16
         clear c16
         have H' := Aside0.mk H
         clear H
         have p13 : 0 ≤ (x3_1 : Int) := of_decide_eq_true (by first | (with_reducible assumption) | assumption)
         have q13 : x3_1 < (a0.size : Int) := of_decide_eq_true (by first | (with_reducible assumption) | assumption)
         have hx13 := bt_at a0 x3_1
         replace p13 := eq_true p13
         replace q13 := eq_true q13
         have p15 : 0 ≤ (x3_1 : Int) := of_decide_eq_true (by first | (with_reducible assumption) | assumption)
         have q15 : x3_1 < (a0.size : Int) := of_decide_eq_true (by first | (with_reducible assumption) | assumption)
         have hx15 := bt_at a0 x3_1
         replace p15 := eq_true p15
         replace q15 := eq_true q15
         go_wp2
         repeat (go_quiet (fail); try go_wp2)
         go_meet
         case rel => exact ⟨_, (true), (by first | rfl | (simp; done) | (simp [*]; done)), H', ⟨by have := HK1.out; first | omega | exact Nat.le_refl _⟩, by repeat (first | exact Drawn0.refl _ | apply Drawn0.step)⟩
        ·rw [if_neg c16] at H
         have c16b0 : decide ((bt a0 x3_1) < 65) = false := decide_eq_false c16
         clear c16
         have H' := Aside0.mk H
         clear H
         have p13 : 0 ≤ (x3_1 : Int) := of_decide_eq_true (by first | (with_reducible assumption) | assumption)
         have q13 : x3_1 < (a0.size : Int) := of_decide_eq_true (by first | (with_reducible assumption) | assumption)
         have hx13 := bt_at a0 x3_1
         replace p13 := eq_true p13
         replace q13 := eq_true q13
         have p15 : 0 ≤ (x3_1 : Int) := of_decide_eq_true (by first | (with_reducible assumption) | assumption)
         have q15 : x3_1 < (a0.size : Int) := of_decide_eq_true (by first | (with_reducible assumption) | assumption)
         have hx15 := bt_at a0 x3_1
         replace p15 := eq_true p15
         replace q15 := eq_true q15
         have p17 : 0 ≤ (x3_1 : Int) := of_decide_eq_true (by first | (with_reducible assumption) | assumption)
         have q17 : x3_1 < (a0.size : Int) := of_decide_eq_true (by first | (with_reducible assumption) | assumption)
         have hx17 := bt_at a0 x3_1
         replace p17 := eq_true p17
         replace q17 := eq_true q17
         go_wp2
         repeat (go_quiet (fail); try go_wp2)
         go_meet
         case rel => exact ⟨_, (decide ((bt a0 x3_1) > 90)), (by first | rfl | (simp; done) | (simp [*]; done)), H', ⟨by have := HK1.out; first | omega | exact Nat.le_refl _⟩, by repeat (first | exact Drawn0.refl _ | apply Drawn0.step)⟩
       ·rw [if_neg c14] at H
        have c14b0 : decide ((bt a0 x3_1) < 97) = false := decide_eq_false c14
        clear c14
        (first | rw [c14b0] | (simp only [i64_w, i32_w]; rw [c14b0]) | skip)
        by_cases c19 : (bt a0 x3_1) > 122
        ·rw [if_pos c19] at H
         have c19b0 : decide (122 < (bt a0 x3_1)) = true := decide_eq_true c19
         clear c19
         by_cases c21 : (bt a0 x3_1) < 65
         ·rw [if_pos c21] at H
          have c21b0 : decide ((bt a0 x3_1) < 65) = true := decide_eq_true c21
          clear c21
          have H' := Aside0.mk H
          clear H
          have p13 : 0 ≤ (x3_1 : Int) := of_decide_eq_true (by first | (with_reducible assumption) | assumption)
          have q13 : x3_1 < (a0.size : Int) := of_decide_eq_true (by first | (with_reducible assumption) | assumption)
          have hx13 := bt_at a0 x3_1
          replace p13 := eq_true p13
          replace q13 := eq_true q13
          have p18 : 0 ≤ (x3_1 : Int) := of_decide_eq_true (by first | (with_reducible assumption) | assumption)
          have q18 : x3_1 < (a0.size : Int) := of_decide_eq_true (by first | (with_reducible assumption) | assumption)
          have hx18 := bt_at a0 x3_1
          replace p18 := eq_true p18
          replace q18 := eq_true q18
          have p20 : 0 ≤ (x3_1 : Int) := of_decide_eq_true (by first | (with_reducible assumption) | assumption)
          have q20 : x3_1 < (a0.size : Int) := of_decide_eq_true (by first | (with_reducible assumption) | assumption)
          have hx20 := bt_at a0 x3_1
          replace p20 := eq_true p20
          replace q20 := eq_true q20
          go_wp2
          repeat (go_quiet (fail); try go_wp2)
          go_meet
          case rel => exact ⟨_, (true), (by first | rfl | (simp; done) | (simp [*]; done)), H', ⟨by have := HK1.out; first | omega | exact Nat.le_refl _⟩, by repeat (first | exact Drawn0.refl _ | apply Drawn0.step)⟩
         ·rw [if_neg c21] at H
          have c21b0 : decide ((bt a0 x3_1) < 65) = false := decide_eq_false c21
          clear c21
          have H' := Aside0.mk H
          clear H
          have p13 : 0 ≤ (x3_1 : Int) := of_decide_eq_true (by first | (with_reducible assumption) | assumption)
          have q13 : x3_1 < (a0.size : Int) := of_decide_eq_true (by first | (with_reducible assumption) | assumption)
          have hx13 := bt_at a0 x3_1
          replace p13 := eq_true p13
          replace q13 := eq_true q13
          have p18 : 0 ≤ (x3_1 : Int) := of_decide_eq_true (by first | (with_reducible assumption) | assumption)
          have q18 : x3_1 < (a0.size : Int) := of_decide_eq_true (by first | (with_reducible assumption) | assumption)
          have hx18 := bt_at a0 x3_1
          replace p18 := eq_true p18
          replace q18 := eq_true q18
          have p20 : 0 ≤ (x3_1 : Int) := of_decide_eq_true (by first | (with_reducible assumption) | assumption)
          have q20 : x3_1 < (a0.size : Int) := of_decide_eq_true (by first | (with_reducible assumption) | assumption)
          have hx20 := bt_at a0 x3_1
          replace p20 := eq_true p20
          replace q20 := eq_true q20
          have p22 : 0 ≤ (x3_1 : Int) := of_decide_eq_true (by first | (with_reducible assumption) | assumption)
          have q22 : x3_1 < (a0.size : Int) := of_decide_eq_true (by first | (with_reducible assumption) | assumption)
          have hx22 := bt_at a0 x3_1
          replace p22 := eq_true p22
          replace q22 := eq_true q22
          go_wp2
          repeat (go_quiet (fail); try go_wp2)
          go_meet
          case rel => exact ⟨_, (decide ((bt a0 x3_1) > 90)), (by first | rfl | (simp; done) | (simp [*]; done)), H', ⟨by have := HK1.out; first | omega | exact Nat.le_refl _⟩, by repeat (first | exact Drawn0.refl _ | apply Drawn0.step)⟩
        ·rw [if_neg c19] at H
         have c19b0 : decide (122 < (bt a0 x3_1)) = false := decide_eq_false c19
         clear c19
         have H' := Aside0.mk H
         clear H
         have p13 : 0 ≤ (x3_1 : Int) := of_decide_eq_true (by first | (with_reducible assumption) | assumption)
         have q13 : x3_1 < (a0.size : Int) := of_decide_eq_true (by first | (with_reducible assumption) | assumption)
         have hx13 := bt_at a0 x3_1
         replace p13 := eq_true p13
         replace q13 := eq_true q13
         have p18 : 0 ≤ (x3_1 : Int) := of_decide_eq_true (by first | (with_reducible assumption) | assumption)
         have q18 : x3_1 < (a0.size : Int) := of_decide_eq_true (by first | (with_reducible assumption) | assumption)
         have hx18 := bt_at a0 x3_1
         replace p18 := eq_true p18
         replace q18 := eq_true q18
         go_wp2
         repeat (go_quiet (fail); try go_wp2)
         go_meet
         case rel => exact ⟨_, (false), (by first | rfl | (simp; done) | (simp [*]; done)), H', ⟨by have := HK1.out; first | omega | exact Nat.le_refl _⟩, by repeat (first | exact Drawn0.refl _ | apply Drawn0.step)⟩
      case rest =>
       clear HC12
       try clear c1
       try clear p1
       try clear q1
       try clear hx1
       try clear c2
       try clear c2b0
       try clear p2
       try clear q2
       try clear hx2
       try clear c3
       try clear c3b0
       try clear p4
       try clear q4
       try clear hx4
       try clear c5
       try clear c5b0
       try clear c5b1
       try clear c6
       try clear c6b0
       try clear c6b1
       try clear p6
       try clear c8
       try clear c8b0
       try clear c9
       try clear c9b0
       try clear p10
       try clear q10
       try clear hx10
       try clear c11
       try clear c11b0
       try clear c11b1
       try clear p13
       try clear q13
       try clear hx13
       try clear c14
       try clear c14b0
       try clear p15
       try clear q15
       try clear hx15
       try clear c16
       try clear c16b0
       try clear p17
       try clear q17
       try clear hx17
       try clear p18
       try clear q18
       try clear hx18
       try clear c19
       try clear c19b0
       try clear p20
       try clear q20
       try clear hx20
       try clear c21
       try clear c21b0
       try clear p22
       try clear q22
       try clear hx22
       try clear p10
       try clear p13
       try clear p15
       try clear p17
       try clear p18
       try clear p20
       try clear p22
       try clear p4
       try clear q10
       try clear q13
       try clear q15
       try clear q17
       try clear q18
       try clear q20
       try clear q22
       try clear q4
       obtain ⟨kq, x45_11, rfl, HA, HJ11, ⟨mc11, rfl⟩⟩ := hcut
       cases kq with
       | zero => exact absurd HA.out (by simp [salvorref6_mayspec.j1])
       | succ kj11 =>
        have H := HA.out
        clear HA
        simp only [salvorref6_mayspec.j1] at H
        by_cases c23 : x45_11 = true
        ·subst c23
         have H1 : (some false) = some r := by rw [if_pos rfl] at H; exact H
         clear H
         have H := H1
         clear H1
         obtain rfl := Option.some.inj H
         go_wp2
         repeat (go_quiet (fail); try go_wp2)
         go_ret
         exact ⟨by first | rfl | (simp; done) | (simp [*]; done), by repeat (first | exact Drawn0.refl _ | apply Drawn0.step)⟩
        ·replace c23 := Bool.eq_false_iff.mpr c23
         subst c23
         have H1 : (salvorref6_mayspec.l1 kj11 a0 x3_1 0) = some r := by rw [if_neg (show ¬ (false = true) by decide)] at H; exact H
         clear H
         have H := H1
         clear H1
         have H' := Aside0.mk H
         clear H
         go_wp2
         repeat (go_quiet (fail); try go_wp2)
         go_loopg [4] kj11 (fun kq v4 w' => ∃ (x4_3 : Int), v4 = .int .i64 x4_3 ∧ Aside0 (salvorref6_mayspec.l1 kq a0 x3_1 x4_3 = some r) ∧ Aside0 (kq ≤ kj11) ∧ Drawn0 w w')
         case atStart => exact ⟨(0), (by first | rfl | (simp; done) | (simp [*]; done)), H', ⟨Nat.le_refl _⟩, by repeat (first | exact Drawn0.refl _ | apply Drawn0.step)⟩
         case round =>
          clear H'
          try clear c1
          try clear p1
          try clear q1
          try clear hx1
          try clear c2
          try clear c2b0
          try clear p2
          try clear q2
          try clear hx2
          try clear c3
          try clear c3b0
          try clear p4
          try clear q4
          try clear hx4
          try clear c5
          try clear c5b0
          try clear c5b1
          try clear c6
          try clear c6b0
          try clear c6b1
          try clear p6
          try clear c8
          try clear c8b0
          try clear c9
          try clear c9b0
          try clear p10
          try clear q10
          try clear hx10
          try clear c11
          try clear c11b0
          try clear c11b1
          try clear p13
          try clear q13
          try clear hx13
          try clear c14
          try clear c14b0
          try clear p15
          try clear q15
          try clear hx15
          try clear c16
          try clear c16b0
          try clear p17
          try clear q17
          try clear hx17
          try clear p18
          try clear q18
          try clear hx18
          try clear c19
          try clear c19b0
          try clear p20
          try clear q20
          try clear hx20
          try clear c21
          try clear c21b0
          try clear p22
          try clear q22
          try clear hx22
          try clear c23
          try clear p1
          try clear p10
          try clear p13
          try clear p15
          try clear p17
          try clear p18
          try clear p2
          try clear p20
          try clear p22
          try clear p4
          try clear p6
          try clear q1
          try clear q10
          try clear q13
          try clear q15
          try clear q17
          try clear q18
          try clear q2
          try clear q20
          try clear q22
          try clear q4
          obtain ⟨x4_3, rfl, HA, HK3, ⟨m3, rfl⟩⟩ := hrel
          cases gk with
          | zero => exact absurd HA.out (by simp [salvorref6_mayspec.l1])
          | succ k3 =>
           have H := HA.out
           clear HA
           simp only [salvorref6_mayspec.l1] at H
           by_cases c24 : x4_3 < x3_1
           ·rw [if_pos c24] at H
            have c24b0 : decide (x4_3 < x3_1) = true := decide_eq_true c24
            clear c24
            by_cases c25 : 0 ≤ x4_3
            ·rw [if_pos c25] at H
             have c25b0 : decide (0 ≤ x4_3) = true := decide_eq_true c25
             clear c25
             by_cases c26 : x4_3 < (a0.size : Int)
             ·rw [if_pos c26] at H
              have c26b0 : decide (x4_3 < (a0.size : Int)) = true := decide_eq_true c26
              clear c26
              by_cases c28 : 0 ≤ x3_1
              ·rw [if_pos c28] at H
               have c28b0 : decide (0 ≤ x3_1) = true := decide_eq_true c28
               clear c28
               by_cases c29 : x3_1 < (a0.size : Int)
               ·rw [if_pos c29] at H
                have c29b0 : decide (x3_1 < (a0.size : Int)) = true := decide_eq_true c29
                clear c29
                by_cases c31 : (bt a0 x4_3) = (bt a0 x3_1)
                ·rw [if_pos c31] at H
                 have c31b0 : ((bt a0 x4_3) == (bt a0 x3_1)) = true := beq_iff_eq.mpr c31
                 have c31b1 : ((bt a0 x4_3) != (bt a0 x3_1)) = false := bne_eq_false_iff_eq.mpr c31
                 clear c31
                 obtain rfl := Option.some.inj H
                 have p27 : 0 ≤ (x4_3 : Int) := of_decide_eq_true (by first | (with_reducible assumption) | assumption)
                 have q27 : x4_3 < (a0.size : Int) := of_decide_eq_true (by first | (with_reducible assumption) | assumption)
                 have hx27 := bt_at a0 x4_3
                 replace p27 := eq_true p27
                 replace q27 := eq_true q27
                 have p30 : 0 ≤ (x3_1 : Int) := of_decide_eq_true (by first | (with_reducible assumption) | assumption)
                 have q30 : x3_1 < (a0.size : Int) := of_decide_eq_true (by first | (with_reducible assumption) | assumption)
                 have hx30 := bt_at a0 x3_1
                 replace p30 := eq_true p30
                 replace q30 := eq_true q30
                 go_wp2
                 repeat (go_quiet (fail); try go_wp2)
                 go_ret
                 exact ⟨by first | rfl | (simp; done) | (simp [*]; done), by repeat (first | exact Drawn0.refl _ | apply Drawn0.step)⟩
                ·rw [if_neg c31] at H
                 have c31b0 : ((bt a0 x4_3) == (bt a0 x3_1)) = false := beq_eq_false_iff_ne.mpr c31
                 have c31b1 : ((bt a0 x4_3) != (bt a0 x3_1)) = true := bne_iff_ne.mpr c31
                 have H' := Aside0.mk H
                 clear H
                 have p27 : 0 ≤ (x4_3 : Int) := of_decide_eq_true (by first | (with_reducible assumption) | assumption)
                 have q27 : x4_3 < (a0.size : Int) := of_decide_eq_true (by first | (with_reducible assumption) | assumption)
                 have hx27 := bt_at a0 x4_3
                 replace p27 := eq_true p27
                 replace q27 := eq_true q27
                 have p30 : 0 ≤ (x3_1 : Int) := of_decide_eq_true (by first | (with_reducible assumption) | assumption)
                 have q30 : x3_1 < (a0.size : Int) := of_decide_eq_true (by first | (with_reducible assumption) | assumption)
                 have hx30 := bt_at a0 x3_1
                 replace p30 := eq_true p30
                 replace q30 := eq_true q30
                 go_wp2
                 repeat (go_quiet (fail); try go_wp2)
                 go_roundg k3
                 case measure => have := HK1.out; have := HJ11.out; have := HK3.out; omega
                 case rel => exact ⟨(wrap64 (x4_3 + 1)), (by first | rfl | (simp; done) | (simp [*]; done)), H', ⟨by have := HK1.out; have := HJ11.out; have := HK3.out; omega⟩, by repeat (first | exact Drawn0.refl _ | apply Drawn0.step)⟩
               ·rw [if_neg c29] at H
                exact absurd H (by simp)
              ·rw [if_neg c28] at H
               exact absurd H (by simp)
             ·rw [if_neg c26] at H
              exact absurd H (by simp)
            ·rw [if_neg c25] at H
             exact absurd H (by simp)
           ·rw [if_neg c24] at H
            have c24b0 : decide (x4_3 < x3_1) = false := decide_eq_false c24
            clear c24
            have H' := Aside0.mk H
            clear H
            go_wp2
            repeat (go_quiet (fail); try go_wp2)
            go_roundg k3
            case measure => have := HK1.out; have := HJ11.out; have := HK3.out; omega
            case rel => exact ⟨(wrap64 (x3_1 + 1)), (by first | rfl | (simp; done) | (simp [*]; done)), H', ⟨by have := HK1.out; have := HJ11.out; have := HK3.out; omega⟩, by repeat (first | exact Drawn0.refl _ | apply Drawn0.step)⟩
    ·rw [if_neg c3] at H
     exact absurd H (by simp)
   ·rw [if_neg c2] at H
    have c2b0 : decide (x3_1 < (a0.size : Int)) = false := decide_eq_false c2
    clear c2
    obtain rfl := Option.some.inj H
    go_wp2
    repeat (go_quiet (fail); try go_wp2)
    go_ret
    exact ⟨by first | rfl | (simp; done) | (simp [*]; done), by repeat (first | exact Drawn0.refl _ | apply Drawn0.step)⟩

end Go.Proofs.YtlginoicaeonhaaDoor.P
