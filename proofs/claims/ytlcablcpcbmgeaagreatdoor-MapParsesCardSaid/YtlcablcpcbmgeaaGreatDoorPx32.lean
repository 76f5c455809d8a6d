/- Laid by a program of this session's own (wip/wprint.py, over the kit's print.py): functions of the given program as plain Lean functions, and that the program's calls come to their answers. -/
import Derived.Test.YtlcablcpcbmgeaaGreatDoorPx0
namespace Go.Proofs.YtlcablcpcbmgeaaGreatDoor.P
open Go.RowKit Go.Proofs.YtlcablcpcbmgeaaGreatDoorW.PrintWords Go.Proofs.YtlcablcpcbmgeaaGreatDoorW.PrintLast Go.Proofs.YtlcablcpcbmgeaaGreatDoorW.PrintMore
attribute [local go_sem] max2_int min2_int max_two min_two max_three min_three max_four min_four   -- for this text's walks alone
set_option linter.unusedVariables false
set_option linter.unusedSimpArgs false

/-! ### salvorref1_number: function 67 -/
mutual
def salvorref1_number.j0 : Nat → ByteArray → Int → Bool → Option (Int × Bool)
 | 0, _, _, _ => none
 | k + 1, x0, x1, x20 => if x20 = true then (some (0, false)) else (salvorref1_number.l0 k x0 x1 0 0)
def salvorref1_number.l0 : Nat → ByteArray → Int → Int → Int → Option (Int × Bool)
 | 0, _, _, _, _ => none
 | k + 1, x0, x1, x8, x9 => if x9 < (x0.size : Int) then (if 0 ≤ x9 then (if (bt x0 x9) ≥ 48 then (salvorref1_number.j2 k x0 x1 x8 x9 (bt x0 x9) 99 (decide ((bt x0 x9) ≤ 57))) else (salvorref1_number.j2 k x0 x1 x8 x9 (bt x0 x9) 99 false)) else (none)) else (if x8 > 4611686018427387904 then (some (0, false)) else (some (wrap64 (x8), true)))
def salvorref1_number.j2 : Nat → ByteArray → Int → Int → Int → Int → Int → Bool → Option (Int × Bool)
 | 0, _, _, _, _, _, _, _ => none
 | k + 1, x0, x1, x8, x9, x10, x11, x30 => if x30 = true then (if ((x10 - 48) % 256) ≥ x1 then (some (0, false)) else (salvorref1_number.l0 k x0 x1 (IntKind.u64.wrap ((IntKind.u64.wrap (x8 * x1)) + ((x10 - 48) % 256))) (wrap64 (x9 + 1)))) else (if x10 ≥ 97 then (salvorref1_number.j3 k x0 x1 x8 x9 x10 x11 (decide (x10 ≤ 102))) else (salvorref1_number.j3 k x0 x1 x8 x9 x10 x11 false))
def salvorref1_number.j3 : Nat → ByteArray → Int → Int → Int → Int → Int → Bool → Option (Int × Bool)
 | 0, _, _, _, _, _, _, _ => none
 | k + 1, x0, x1, x8, x9, x10, x11, x40 => if x40 = true then (if (((x10 - 97) % 256) + 10) ≥ x1 then (some (0, false)) else (salvorref1_number.l0 k x0 x1 (IntKind.u64.wrap ((IntKind.u64.wrap (x8 * x1)) + (((x10 - 97) % 256) + 10))) (wrap64 (x9 + 1)))) else (if x10 ≥ 65 then (salvorref1_number.j4 k x0 x1 x8 x9 x10 x11 (decide (x10 ≤ 70))) else (salvorref1_number.j4 k x0 x1 x8 x9 x10 x11 false))
def salvorref1_number.j4 : Nat → ByteArray → Int → Int → Int → Int → Int → Bool → Option (Int × Bool)
 | 0, _, _, _, _, _, _, _ => none
 | k + 1, x0, x1, x8, x9, x10, x11, x51 => if x51 = true then (if (((x10 - 65) % 256) + 10) ≥ x1 then (some (0, false)) else (salvorref1_number.l0 k x0 x1 (IntKind.u64.wrap ((IntKind.u64.wrap (x8 * x1)) + (((x10 - 65) % 256) + 10))) (wrap64 (x9 + 1)))) else (if x11 ≥ x1 then (some (0, false)) else (salvorref1_number.l0 k x0 x1 (IntKind.u64.wrap ((IntKind.u64.wrap (x8 * x1)) + x11)) (wrap64 (x9 + 1))))
end
def salvorref1_number.f (k : Nat) (a0 : ByteArray) (a1 : Int) (a2 : Int) : Option (Int × Bool) := if (a0.size : Int) < 1 then (salvorref1_number.j0 k a0 a1 true) else (salvorref1_number.j0 k a0 a1 (decide ((a0.size : Int) > a2)))
theorem salvorref1_number.mono_l : ∀ k, (∀ y0 y1 y2, LeO (salvorref1_number.j0 k y0 y1 y2) (salvorref1_number.j0 (k + 1) y0 y1 y2)) ∧ (∀ y0 y1 y2 y3, LeO (salvorref1_number.l0 k y0 y1 y2 y3) (salvorref1_number.l0 (k + 1) y0 y1 y2 y3)) ∧ (∀ y0 y1 y2 y3 y4 y5 y6, LeO (salvorref1_number.j2 k y0 y1 y2 y3 y4 y5 y6) (salvorref1_number.j2 (k + 1) y0 y1 y2 y3 y4 y5 y6)) ∧ (∀ y0 y1 y2 y3 y4 y5 y6, LeO (salvorref1_number.j3 k y0 y1 y2 y3 y4 y5 y6) (salvorref1_number.j3 (k + 1) y0 y1 y2 y3 y4 y5 y6)) ∧ (∀ y0 y1 y2 y3 y4 y5 y6, LeO (salvorref1_number.j4 k y0 y1 y2 y3 y4 y5 y6) (salvorref1_number.j4 (k + 1) y0 y1 y2 y3 y4 y5 y6))
 | 0 => ⟨fun _ _ _ r h => by simp [salvorref1_number.j0] at h, fun _ _ _ _ r h => by simp [salvorref1_number.l0] at h, fun _ _ _ _ _ _ _ r h => by simp [salvorref1_number.j2] at h, fun _ _ _ _ _ _ _ r h => by simp [salvorref1_number.j3] at h, fun _ _ _ _ _ _ _ r h => by simp [salvorref1_number.j4] at h⟩
 | k + 1 => by
  obtain ⟨ih0, ih1, ih2, ih3, ih4⟩ := salvorref1_number.mono_l k
  refine ⟨?_, ?_, ?_, ?_, ?_⟩
  ·intro y0 y1 y2
   unfold salvorref1_number.j0
   repeat' first
   | (with_reducible exact ih0 _ _ _)
   | (with_reducible exact ih1 _ _ _ _)
   | (with_reducible exact ih2 _ _ _ _ _ _ _)
   | (with_reducible exact ih3 _ _ _ _ _ _ _)
   | (with_reducible exact ih4 _ _ _ _ _ _ _)
   | (with_reducible exact LeO.refl _)
   | (with_reducible exact LeO.none _)
   | (with_reducible refine LeO.ite ?_ ?_)
   | (with_reducible refine LeO.bind ?_ (fun _ => ?_))
   | exact ih0 _ _ _
   | exact ih1 _ _ _ _
   | exact ih2 _ _ _ _ _ _ _
   | exact ih3 _ _ _ _ _ _ _
   | exact ih4 _ _ _ _ _ _ _
   | exact LeO.none _
   | refine LeO.ite ?_ ?_
   | refine LeO.bind ?_ (fun _ => ?_)
  ·intro y0 y1 y2 y3
   unfold salvorref1_number.l0
   repeat' first
   | (with_reducible exact ih0 _ _ _)
   | (with_reducible exact ih1 _ _ _ _)
   | (with_reducible exact ih2 _ _ _ _ _ _ _)
   | (with_reducible exact ih3 _ _ _ _ _ _ _)
   | (with_reducible exact ih4 _ _ _ _ _ _ _)
   | (with_reducible exact LeO.refl _)
   | (with_reducible exact LeO.none _)
   | (with_reducible refine LeO.ite ?_ ?_)
   | (with_reducible refine LeO.bind ?_ (fun _ => ?_))
   | exact ih0 _ _ _
   | exact ih1 _ _ _ _
   | exact ih2 _ _ _ _ _ _ _
   | exact ih3 _ _ _ _ _ _ _
   | exact ih4 _ _ _ _ _ _ _
   | exact LeO.none _
   | refine LeO.ite ?_ ?_
   | refine LeO.bind ?_ (fun _ => ?_)
  ·intro y0 y1 y2 y3 y4 y5 y6
   unfold salvorref1_number.j2
   repeat' first
   | (with_reducible exact ih0 _ _ _)
   | (with_reducible exact ih1 _ _ _ _)
   | (with_reducible exact ih2 _ _ _ _ _ _ _)
   | (with_reducible exact ih3 _ _ _ _ _ _ _)
   | (with_reducible exact ih4 _ _ _ _ _ _ _)
   | (with_reducible exact LeO.refl _)
   | (with_reducible exact LeO.none _)
   | (with_reducible refine LeO.ite ?_ ?_)
   | (with_reducible refine LeO.bind ?_ (fun _ => ?_))
   | exact ih0 _ _ _
   | exact ih1 _ _ _ _
   | exact ih2 _ _ _ _ _ _ _
   | exact ih3 _ _ _ _ _ _ _
   | exact ih4 _ _ _ _ _ _ _
   | exact LeO.none _
   | refine LeO.ite ?_ ?_
   | refine LeO.bind ?_ (fun _ => ?_)
  ·intro y0 y1 y2 y3 y4 y5 y6
   unfold salvorref1_number.j3
   repeat' first
   | (with_reducible exact ih0 _ _ _)
   | (with_reducible exact ih1 _ _ _ _)
   | (with_reducible exact ih2 _ _ _ _ _ _ _)
   | (with_reducible exact ih3 _ _ _ _ _ _ _)
   | (with_reducible exact ih4 _ _ _ _ _ _ _)
   | (with_reducible exact LeO.refl _)
   | (with_reducible exact LeO.none _)
   | (with_reducible refine LeO.ite ?_ ?_)
   | (with_reducible refine LeO.bind ?_ (fun _ => ?_))
   | exact ih0 _ _ _
   | exact ih1 _ _ _ _
   | exact ih2 _ _ _ _ _ _ _
   | exact ih3 _ _ _ _ _ _ _
   | exact ih4 _ _ _ _ _ _ _
   | exact LeO.none _
   | refine LeO.ite ?_ ?_
   | refine LeO.bind ?_ (fun _ => ?_)
  ·intro y0 y1 y2 y3 y4 y5 y6
   unfold salvorref1_number.j4
   repeat' first
   | (with_reducible exact ih0 _ _ _)
   | (with_reducible exact ih1 _ _ _ _)
   | (with_reducible exact ih2 _ _ _ _ _ _ _)
   | (with_reducible exact ih3 _ _ _ _ _ _ _)
   | (with_reducible exact ih4 _ _ _ _ _ _ _)
   | (with_reducible exact LeO.refl _)
   | (with_reducible exact LeO.none _)
   | (with_reducible refine LeO.ite ?_ ?_)
   | (with_reducible refine LeO.bind ?_ (fun _ => ?_))
   | exact ih0 _ _ _
   | exact ih1 _ _ _ _
   | exact ih2 _ _ _ _ _ _ _
   | exact ih3 _ _ _ _ _ _ _
   | exact ih4 _ _ _ _ _ _ _
   | exact LeO.none _
   | refine LeO.ite ?_ ?_
   | refine LeO.bind ?_ (fun _ => ?_)
theorem salvorref1_number.mono : ∀ a0 a1 a2 k, LeO (salvorref1_number.f k a0 a1 a2) (salvorref1_number.f (k + 1) a0 a1 a2) := by
 intro a0 a1 a2 k
 obtain ⟨ih0, ih1, ih2, ih3, ih4⟩ := salvorref1_number.mono_l k
 unfold salvorref1_number.f
 repeat' first
   | (with_reducible exact ih0 _ _ _)
   | (with_reducible exact ih1 _ _ _ _)
   | (with_reducible exact ih2 _ _ _ _ _ _ _)
   | (with_reducible exact ih3 _ _ _ _ _ _ _)
   | (with_reducible exact ih4 _ _ _ _ _ _ _)
   | (with_reducible exact LeO.refl _)
   | (with_reducible exact LeO.none _)
   | (with_reducible refine LeO.ite ?_ ?_)
   | (with_reducible refine LeO.bind ?_ (fun _ => ?_))
   | exact ih0 _ _ _
   | exact ih1 _ _ _ _
   | exact ih2 _ _ _ _ _ _ _
   | exact ih3 _ _ _ _ _ _ _
   | exact ih4 _ _ _ _ _ _ _
   | exact LeO.none _
   | refine LeO.ite ?_ ?_
   | refine LeO.bind ?_ (fun _ => ?_)
set_option maxHeartbeats 8000000 in
set_option maxRecDepth 100000 in
theorem salvorref1_number.calls (k : Nat) (a0 : ByteArray) (a1 : Int) (a2 : Int) (r1 : Int) (r2 : Bool) (w : World) (h : salvorref1_number.f k a0 a1 a2 = some (r1, r2)) :
  Calls Tryz.prog 67 #[.string a0, .int .u64 a1, .int .i64 a2] w fun e w' => e = .returned (.tuple #[.int .i64 r1, .bool r2]) ∧ Drawn0 w w' := by
 have H : (if (a0.size : Int) < 1 then (salvorref1_number.j0 k a0 a1 true) else (salvorref1_number.j0 k a0 a1 (decide ((a0.size : Int) > a2)))) = some (r1, r2) := h
 clear h
 have HC4 := Aside0.mk H
 clear H
 go_enter Tryz.func67, Tryz.ntmps67
 go_upto_region 1 with (fail)
 go_cut [20] (fun v20 wc => ∃ (kq : Nat) (x20_3 : Bool), v20 = .bool x20_3 ∧ Aside0 (salvorref1_number.j0 kq a0 a1 x20_3 = some (r1, r2)) ∧ Aside0 (kq ≤ k) ∧ Drawn0 w wc)
 case first =>
  have H := HC4.out
  clear HC4
  by_cases c5 : (a0.size : Int) < 1
  ·rw [if_pos c5] at H
   have c5b0 : decide ((a0.size : Int) < 1) = true := decide_eq_true c5
   have c5b1 : decide (a0.size < 1) = true := decide_eq_true (by omega)
   clear c5
   (first | rw [c5b0] | (simp only [i64_w, i32_w]; rw [c5b0]) | skip)
   have H' := Aside0.mk H
   clear H
   go_wp2
   go_meet
   case rel => exact ⟨_, (true), (by first | rfl | (simp; done) | (simp [*]; done)), H', ⟨by first | omega | exact Nat.le_refl _⟩, by repeat (first | exact Drawn0.refl _ | apply Drawn0.step)⟩
  ·rw [if_neg c5] at H
   have c5b0 : decide ((a0.size : Int) < 1) = false := decide_eq_false c5
   have c5b1 : decide (a0.size < 1) = false := decide_eq_false (by omega)
   clear c5
   (first | rw [c5b0] | (simp only [i64_w, i32_w]; rw [c5b0]) | skip)
   have H' := Aside0.mk H
   clear H
   go_wp2
   go_meet
   case rel => exact ⟨_, (decide ((a0.size : Int) > a2)), (by first | rfl | (simp; done) | (simp [*]; done)), H', ⟨by first | omega | exact Nat.le_refl _⟩, by repeat (first | exact Drawn0.refl _ | apply Drawn0.step)⟩
 case rest =>
  clear HC4
  try clear p2
  try clear c5
  try clear c5b0
  try clear c5b1
  obtain ⟨kq, x20_3, rfl, HA, HJ3, ⟨mc3, rfl⟩⟩ := hcut
  cases kq with
  | zero => exact absurd HA.out (by simp [salvorref1_number.j0])
  | succ kj3 =>
   have H := HA.out
   clear HA
   simp only [salvorref1_number.j0] at H
   by_cases c6 : x20_3 = true
   ·subst c6
    have H1 : (some (0, false)) = some (r1, r2) := by rw [if_pos rfl] at H; exact H
    clear H
    have H := H1
    clear H1
    simp only [Option.some.injEq, Prod.mk.injEq] at H
    obtain ⟨rfl, rfl⟩ := H
    go_wp2
    go_ret2
    exact ⟨by first | rfl | (simp; done) | (simp [*]; done), by repeat (first | exact Drawn0.refl _ | apply Drawn0.step)⟩
   ·replace c6 := Bool.eq_false_iff.mpr c6
    subst c6
    have H1 : (salvorref1_number.l0 kj3 a0 a1 0 0) = some (r1, r2) := by rw [if_neg (show ¬ (false = true) by decide)] at H; exact H
    clear H
    have H := H1
    clear H1
    have H' := Aside0.mk H
    clear H
    go_wp2
    go_loopg [8, 9] kj3 (fun kq v8 v9 w' => ∃ (x8_2 : Int) (x9_2 : Int), v8 = .int .u64 x8_2 ∧ v9 = .int .i64 x9_2 ∧ Aside0 (salvorref1_number.l0 kq a0 a1 x8_2 x9_2 = some (r1, r2)) ∧ Aside0 (kq ≤ kj3) ∧ Drawn0 w w')
    case atStart => exact ⟨(0), (0), (by first | rfl | (simp; done) | (simp [*]; done)), (by first | rfl | (simp; done) | (simp [*]; done)), H', ⟨Nat.le_refl _⟩, by repeat (first | exact Drawn0.refl _ | apply Drawn0.step)⟩
    case round =>
     clear H'
     try clear p2
     try clear c3
     try clear c5
     try clear c5b0
     try clear c5b1
     try clear c6
     try clear p2
     obtain ⟨x8_2, x9_2, rfl, rfl, HA, HK2, ⟨m2, rfl⟩⟩ := hrel
     cases gk with
     | zero => exact absurd HA.out (by simp [salvorref1_number.l0])
     | succ k2 =>
      have H := HA.out
      clear HA
      simp only [salvorref1_number.l0] at H
      by_cases c7 : x9_2 < (a0.size : Int)
      ·rw [if_pos c7] at H
       have c7b0 : decide (x9_2 < (a0.size : Int)) = true := decide_eq_true c7
       clear c7
       by_cases c8 : 0 ≤ x9_2
       ·rw [if_pos c8] at H
        have c8b0 : decide (0 ≤ x9_2) = true := decide_eq_true c8
        clear c8
        have HC10 := Aside0.mk H
        clear H
        have p9 : 0 ≤ (x9_2 : Int) := of_decide_eq_true (by first | (with_reducible assumption) | assumption)
        have q9 : x9_2 < (a0.size : Int) := of_decide_eq_true (by first | (with_reducible assumption) | assumption)
        have hx9 := bt_at a0 x9_2
        replace p9 := eq_true p9
        replace q9 := eq_true q9
        go_upto_region 8 with (fail)
        go_cut [30] (fun v30 wc => ∃ (kq : Nat) (x30_9 : Bool), v30 = .bool x30_9 ∧ Aside0 (salvorref1_number.j2 kq a0 a1 x8_2 x9_2 (bt a0 x9_2) 99 x30_9 = some (r1, r2)) ∧ Aside0 (kq ≤ k2) ∧ Drawn0 w wc)
        case first =>
         have H := HC10.out
         clear HC10
         by_cases c11 : (bt a0 x9_2) ≥ 48
         ·rw [if_pos c11] at H
          have c11b0 : decide (48 ≤ (bt a0 x9_2)) = true := decide_eq_true c11
          clear c11
          (first | rw [c11b0] | (simp only [i64_w, i32_w]; rw [c11b0]) | skip)
          have H' := Aside0.mk H
          clear H
          go_wp2
          go_meet
          case rel => exact ⟨_, (decide ((bt a0 x9_2) ≤ 57)), (by first | rfl | (simp; done) | (simp [*]; done)), H', ⟨by have := HJ3.out; have := HK2.out; first | omega | exact Nat.le_refl _⟩, by repeat (first | exact Drawn0.refl _ | apply Drawn0.step)⟩
         ·rw [if_neg c11] at H
          have c11b0 : decide (48 ≤ (bt a0 x9_2)) = false := decide_eq_false c11
          clear c11
          (first | rw [c11b0] | (simp only [i64_w, i32_w]; rw [c11b0]) | skip)
          have H' := Aside0.mk H
          clear H
          go_wp2
          go_meet
          case rel => exact ⟨_, (false), (by first | rfl | (simp; done) | (simp [*]; done)), H', ⟨by have := HJ3.out; have := HK2.out; first | omega | exact Nat.le_refl _⟩, by repeat (first | exact Drawn0.refl _ | apply Drawn0.step)⟩
        case rest =>
         clear HC10
         try clear c1
         try clear p2
         try clear c3
         try clear c5
         try clear c5b0
         try clear c5b1
         try clear c6
         try clear c7
         try clear c7b0
         try clear c8
         try clear c8b0
         try clear p9
         try clear q9
         try clear hx9
         try clear c11
         try clear c11b0
         try clear p2
         try clear p9
         try clear q9
         obtain ⟨kq, x30_9, rfl, HA, HJ9, ⟨mc9, rfl⟩⟩ := hcut
         cases kq with
         | zero => exact absurd HA.out (by simp [salvorref1_number.j2])
         | succ kj9 =>
          have H := HA.out
          clear HA
          simp only [salvorref1_number.j2] at H
          by_cases c12 : x30_9 = true
          ·subst c12
           have H1 : (if (((bt a0 x9_2) - 48) % 256) ≥ a1 then (some (0, false)) else (salvorref1_number.l0 kj9 a0 a1 (IntKind.u64.wrap ((IntKind.u64.wrap (x8_2 * a1)) + (((bt a0 x9_2) - 48) % 256))) (wrap64 (x9_2 + 1)))) = some (r1, r2) := by rw [if_pos rfl] at H; exact H
           clear H
           have H := H1
           clear H1
           by_cases c13 : (((bt a0 x9_2) - 48) % 256) ≥ a1
           ·rw [if_pos c13] at H
            have c13b0 : decide (a1 ≤ (((bt a0 x9_2) - 48) % 256)) = true := decide_eq_true c13
            clear c13
            simp only [Option.some.injEq, Prod.mk.injEq] at H
            obtain ⟨rfl, rfl⟩ := H
            go_wp2
            go_ret2
            exact ⟨by first | rfl | (simp; done) | (simp [*]; done), by repeat (first | exact Drawn0.refl _ | apply Drawn0.step)⟩
           ·rw [if_neg c13] at H
            have c13b0 : decide (a1 ≤ (((bt a0 x9_2) - 48) % 256)) = false := decide_eq_false c13
            clear c13
            have H' := Aside0.mk H
            clear H
            go_wp2
            go_roundg kj9
            case measure => have := HJ3.out; have := HK2.out; have := HJ9.out; omega
            case rel => exact ⟨(IntKind.u64.wrap ((IntKind.u64.wrap (x8_2 * a1)) + (((bt a0 x9_2) - 48) % 256))), (wrap64 (x9_2 + 1)), (by first | rfl | (simp; done) | (simp [*]; done)), (by first | rfl | (simp; done) | (simp [*]; done)), H', ⟨by have := HJ3.out; have := HK2.out; have := HJ9.out; omega⟩, by repeat (first | exact Drawn0.refl _ | apply Drawn0.step)⟩
          ·replace c12 := Bool.eq_false_iff.mpr c12
           subst c12
           have H1 : (if (bt a0 x9_2) ≥ 97 then (salvorref1_number.j3 kj9 a0 a1 x8_2 x9_2 (bt a0 x9_2) 99 (decide ((bt a0 x9_2) ≤ 102))) else (salvorref1_number.j3 kj9 a0 a1 x8_2 x9_2 (bt a0 x9_2) 99 false)) = some (r1, r2) := by rw [if_neg (show ¬ (false = true) by decide)] at H; exact H
           clear H
           have H := H1
           clear H1
           have HC14 := Aside0.mk H
           clear H
           go_upto_region 10 with (fail)
           go_cut [40] (fun v40 wc => ∃ (kq : Nat) (x40_13 : Bool), v40 = .bool x40_13 ∧ Aside0 (salvorref1_number.j3 kq a0 a1 x8_2 x9_2 (bt a0 x9_2) 99 x40_13 = some (r1, r2)) ∧ Aside0 (kq ≤ kj9) ∧ Drawn0 w wc)
           case first =>
            have H := HC14.out
            clear HC14
            by_cases c15 : (bt a0 x9_2) ≥ 97
            ·rw [if_pos c15] at H
             have c15b0 : decide (97 ≤ (bt a0 x9_2)) = true := decide_eq_true c15
             clear c15
             (first | rw [c15b0] | (simp only [i64_w, i32_w]; rw [c15b0]) | skip)
             have H' := Aside0.mk H
             clear H
             go_wp2
             go_meet
             case rel => exact ⟨_, (decide ((bt a0 x9_2) ≤ 102)), (by first | rfl | (simp; done) | (simp [*]; done)), H', ⟨by have := HJ3.out; have := HK2.out; have := HJ9.out; first | omega | exact Nat.le_refl _⟩, by repeat (first | exact Drawn0.refl _ | apply Drawn0.step)⟩
            ·rw [if_neg c15] at H
             have c15b0 : decide (97 ≤ (bt a0 x9_2)) = false := decide_eq_false c15
             clear c15
             (first | rw [c15b0] | (simp only [i64_w, i32_w]; rw [c15b0]) | skip)
             have H' := Aside0.mk H
             clear H
             go_wp2
             go_meet
             case rel => exact ⟨_, (false), (by first | rfl | (simp; done) | (simp [*]; done)), H', ⟨by have := HJ3.out; have := HK2.out; have := HJ9.out; first | omega | exact Nat.le_refl _⟩, by repeat (first | exact Drawn0.refl _ | apply Drawn0.step)⟩
           case rest =>
            clear HC14
            try clear c1
            try clear p2
            try clear c3
            try clear c5
            try clear c5b0
            try clear c5b1
            try clear c6
            try clear p6
            try clear c7
            try clear c7b0
            try clear c8
            try clear c8b0
            try clear c9
            try clear p9
            try clear q9
            try clear hx9
            try clear c11
            try clear c11b0
            try clear c12
            try clear c13
            try clear c13b0
            try clear c15
            try clear c15b0
            try clear p2
            try clear p9
            try clear q9
            obtain ⟨kq, x40_13, rfl, HA, HJ13, ⟨mc13, rfl⟩⟩ := hcut
            cases kq with
            | zero => exact absurd HA.out (by simp [salvorref1_number.j3])
            | succ kj13 =>
             have H := HA.out
             clear HA
             simp only [salvorref1_number.j3] at H
             by_cases c16 : x40_13 = true
             ·subst c16
              have H1 : (if ((((bt a0 x9_2) - 97) % 256) + 10) ≥ a1 then (some (0, false)) else (salvorref1_number.l0 kj13 a0 a1 (IntKind.u64.wrap ((IntKind.u64.wrap (x8_2 * a1)) + ((((bt a0 x9_2) - 97) % 256) + 10))) (wrap64 (x9_2 + 1)))) = some (r1, r2) := by rw [if_pos rfl] at H; exact H
              clear H
              have H := H1
              clear H1
              by_cases c17 : ((((bt a0 x9_2) - 97) % 256) + 10) ≥ a1
              ·rw [if_pos c17] at H
               have c17b0 : decide (a1 ≤ ((((bt a0 x9_2) - 97) % 256) + 10)) = true := decide_eq_true c17
               clear c17
               simp only [Option.some.injEq, Prod.mk.injEq] at H
               obtain ⟨rfl, rfl⟩ := H
               go_wp2
               go_ret2
               exact ⟨by first | rfl | (simp; done) | (simp [*]; done), by repeat (first | exact Drawn0.refl _ | apply Drawn0.step)⟩
              ·rw [if_neg c17] at H
               have c17b0 : decide (a1 ≤ ((((bt a0 x9_2) - 97) % 256) + 10)) = false := decide_eq_false c17
               clear c17
               have H' := Aside0.mk H
               clear H
               go_wp2
               go_roundg kj13
               case measure => have := HJ3.out; have := HK2.out; have := HJ9.out; have := HJ13.out; omega
               case rel => exact ⟨(IntKind.u64.wrap ((IntKind.u64.wrap (x8_2 * a1)) + ((((bt a0 x9_2) - 97) % 256) + 10))), (wrap64 (x9_2 + 1)), (by first | rfl | (simp; done) | (simp [*]; done)), (by first | rfl | (simp; done) | (simp [*]; done)), H', ⟨by have := HJ3.out; have := HK2.out; have := HJ9.out; have := HJ13.out; omega⟩, by repeat (first | exact Drawn0.refl _ | apply Drawn0.step)⟩
             ·replace c16 := Bool.eq_false_iff.mpr c16
              subst c16
              have H1 : (if (bt a0 x9_2) ≥ 65 then (salvorref1_number.j4 kj13 a0 a1 x8_2 x9_2 (bt a0 x9_2) 99 (decide ((bt a0 x9_2) ≤ 70))) else (salvorref1_number.j4 kj13 a0 a1 x8_2 x9_2 (bt a0 x9_2) 99 false)) = some (r1, r2) := by rw [if_neg (show ¬ (false = true) by decide)] at H; exact H
              clear H
              have H := H1
              clear H1
              have HC18 := Aside0.mk H
              clear H
              go_upto_region 12 with (fail)
              go_cut [51] (fun v51 wc => ∃ (kq : Nat) (x51_17 : Bool), v51 = .bool x51_17 ∧ Aside0 (salvorref1_number.j4 kq a0 a1 x8_2 x9_2 (bt a0 x9_2) 99 x51_17 = some (r1, r2)) ∧ Aside0 (kq ≤ kj13) ∧ Drawn0 w wc)
              case first =>
               have H := HC18.out
               clear HC18
               by_cases c19 : (bt a0 x9_2) ≥ 65
               ·rw [if_pos c19] at H
                have c19b0 : decide (65 ≤ (bt a0 x9_2)) = true := decide_eq_true c19
                clear c19
                (first | rw [c19b0] | (simp only [i64_w, i32_w]; rw [c19b0]) | skip)
                have H' := Aside0.mk H
                clear H
                go_wp2
                go_meet
                case rel => exact ⟨_, (decide ((bt a0 x9_2) ≤ 70)), (by first | rfl | (simp; done) | (simp [*]; done)), H', ⟨by have := HJ3.out; have := HK2.out; have := HJ9.out; have := HJ13.out; first | omega | exact Nat.le_refl _⟩, by repeat (first | exact Drawn0.refl _ | apply Drawn0.step)⟩
               ·rw [if_neg c19] at H
                have c19b0 : decide (65 ≤ (bt a0 x9_2)) = false := decide_eq_false c19
                clear c19
                (first | rw [c19b0] | (simp only [i64_w, i32_w]; rw [c19b0]) | skip)
                have H' := Aside0.mk H
                clear H
                go_wp2
                go_meet
                case rel => exact ⟨_, (false), (by first | rfl | (simp; done) | (simp [*]; done)), H', ⟨by have := HJ3.out; have := HK2.out; have := HJ9.out; have := HJ13.out; first | omega | exact Nat.le_refl _⟩, by repeat (first | exact Drawn0.refl _ | apply Drawn0.step)⟩
              case rest =>
               clear HC18
               try clear c1
               try clear p2
               try clear c3
               try clear c5
               try clear c5b0
               try clear c5b1
               try clear c6
               try clear p6
               try clear c7
               try clear c7b0
               try clear c8
               try clear c8b0
               try clear c9
               try clear p9
               try clear q9
               try clear hx9
               try clear c11
               try clear c11b0
               try clear c12
               try clear c13
               try clear c13b0
               try clear c15
               try clear c15b0
               try clear c16
               try clear c17
               try clear c17b0
               try clear c19
               try clear c19b0
               try clear p2
               try clear p6
               try clear p9
               try clear q9
               obtain ⟨kq, x51_17, rfl, HA, HJ17, ⟨mc17, rfl⟩⟩ := hcut
               cases kq with
               | zero => exact absurd HA.out (by simp [salvorref1_number.j4])
               | succ kj17 =>
                have H := HA.out
                clear HA
                simp only [salvorref1_number.j4] at H
                by_cases c20 : x51_17 = true
                ·subst c20
                 have H1 : (if ((((bt a0 x9_2) - 65) % 256) + 10) ≥ a1 then (some (0, false)) else (salvorref1_number.l0 kj17 a0 a1 (IntKind.u64.wrap ((IntKind.u64.wrap (x8_2 * a1)) + ((((bt a0 x9_2) - 65) % 256) + 10))) (wrap64 (x9_2 + 1)))) = some (r1, r2) := by rw [if_pos rfl] at H; exact H
                 clear H
                 have H := H1
                 clear H1
                 by_cases c21 : ((((bt a0 x9_2) - 65) % 256) + 10) ≥ a1
                 ·rw [if_pos c21] at H
                  have c21b0 : decide (a1 ≤ ((((bt a0 x9_2) - 65) % 256) + 10)) = true := decide_eq_true c21
                  clear c21
                  simp only [Option.some.injEq, Prod.mk.injEq] at H
                  obtain ⟨rfl, rfl⟩ := H
                  go_wp2
                  go_ret2
                  exact ⟨by first | rfl | (simp; done) | (simp [*]; done), by repeat (first | exact Drawn0.refl _ | apply Drawn0.step)⟩
                 ·rw [if_neg c21] at H
                  have c21b0 : decide (a1 ≤ ((((bt a0 x9_2) - 65) % 256) + 10)) = false := decide_eq_false c21
                  clear c21
                  have H' := Aside0.mk H
                  clear H
                  go_wp2
                  go_roundg kj17
                  case measure => have := HJ3.out; have := HK2.out; have := HJ9.out; have := HJ13.out; have := HJ17.out; omega
                  case rel => exact ⟨(IntKind.u64.wrap ((IntKind.u64.wrap (x8_2 * a1)) + ((((bt a0 x9_2) - 65) % 256) + 10))), (wrap64 (x9_2 + 1)), (by first | rfl | (simp; done) | (simp [*]; done)), (by first | rfl | (simp; done) | (simp [*]; done)), H', ⟨by have := HJ3.out; have := HK2.out; have := HJ9.out; have := HJ13.out; have := HJ17.out; omega⟩, by repeat (first | exact Drawn0.refl _ | apply Drawn0.step)⟩
                ·replace c20 := Bool.eq_false_iff.mpr c20
                 subst c20
                 have H1 : (if 99 ≥ a1 then (some (0, false)) else (salvorref1_number.l0 kj17 a0 a1 (IntKind.u64.wrap ((IntKind.u64.wrap (x8_2 * a1)) + 99)) (wrap64 (x9_2 + 1)))) = some (r1, r2) := by rw [if_neg (show ¬ (false = true) by decide)] at H; exact H
                 clear H
                 have H := H1
                 clear H1
                 by_cases c22 : 99 ≥ a1
                 ·rw [if_pos c22] at H
                  have c22b0 : decide (a1 ≤ 99) = true := decide_eq_true c22
                  clear c22
                  simp only [Option.some.injEq, Prod.mk.injEq] at H
                  obtain ⟨rfl, rfl⟩ := H
                  go_wp2
                  go_ret2
                  exact ⟨by first | rfl | (simp; done) | (simp [*]; done), by repeat (first | exact Drawn0.refl _ | apply Drawn0.step)⟩
                 ·rw [if_neg c22] at H
                  have c22b0 : decide (a1 ≤ 99) = false := decide_eq_false c22
                  clear c22
                  have H' := Aside0.mk H
                  clear H
                  go_wp2
                  go_roundg kj17
                  case measure => have := HJ3.out; have := HK2.out; have := HJ9.out; have := HJ13.out; have := HJ17.out; omega
                  case rel => exact ⟨(IntKind.u64.wrap ((IntKind.u64.wrap (x8_2 * a1)) + 99)), (wrap64 (x9_2 + 1)), (by first | rfl | (simp; done) | (simp [*]; done)), (by first | rfl | (simp; done) | (simp [*]; done)), H', ⟨by have := HJ3.out; have := HK2.out; have := HJ9.out; have := HJ13.out; have := HJ17.out; omega⟩, by repeat (first | exact Drawn0.refl _ | apply Drawn0.step)⟩
       ·rw [if_neg c8] at H
        exact absurd H (by simp)
      ·rw [if_neg c7] at H
       have c7b0 : decide (x9_2 < (a0.size : Int)) = false := decide_eq_false c7
       clear c7
       by_cases c23 : x8_2 > 4611686018427387904
       ·rw [if_pos c23] at H
        have c23b0 : decide (4611686018427387904 < x8_2) = true := decide_eq_true c23
        clear c23
        simp only [Option.some.injEq, Prod.mk.injEq] at H
        obtain ⟨rfl, rfl⟩ := H
        go_wp2
        go_ret2
        exact ⟨by first | rfl | (simp; done) | (simp [*]; done), by repeat (first | exact Drawn0.refl _ | apply Drawn0.step)⟩
       ·rw [if_neg c23] at H
        have c23b0 : decide (4611686018427387904 < x8_2) = false := decide_eq_false c23
        clear c23
        simp only [Option.some.injEq, Prod.mk.injEq] at H
        obtain ⟨rfl, rfl⟩ := H
        go_wp2
        go_ret2
        exact ⟨by first | rfl | (simp; done) | (simp [*]; done), by repeat (first | exact Drawn0.refl _ | apply Drawn0.step)⟩

end Go.Proofs.YtlcablcpcbmgeaaGreatDoor.P
