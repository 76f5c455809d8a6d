/- Laid by a program of this session's own (wip/wprint.py, over the kit's print.py): functions of the given program as plain Lean functions, and that the program's calls come to their answers. -/
import Derived.Test.YtbmhfnncagncmaaDoorPx0
import Derived.Test.YtbmhfnncagncmaaDoorPx10
namespace Go.Proofs.YtbmhfnncagncmaaDoor.P
open Go.RowKit Go.Proofs.YtbmhfnncagncmaaDoorW.PrintWords Go.Proofs.YtbmhfnncagncmaaDoorW.PrintLast Go.Proofs.YtbmhfnncagncmaaDoorW.PrintMore
attribute [local go_sem] max2_int min2_int max_two min_two max_three min_three max_four min_four   -- for this text's walks alone
set_option linter.unusedVariables false
set_option linter.unusedSimpArgs false

/-! ### off_Mul: function 32 -/
mutual
def off_Mul.l0 : Nat → List Int → List Int → Int → Int → Option (Int × Bool)
 | 0, _, _, _, _ => none
 | k + 1, x0, x12, x13, x14 => if x14 < x13 then (if 0 ≤ x14 then (if x14 < (x12.length : Int) then (if (rd x12 x14) = 0 then (some (0, true)) else (off_Mul.l0 k x0 x12 x13 (wrap64 (x14 + 1)))) else (none)) else (none)) else (off_Mul.l1 k 1 x0 (x0.length : Int) 0)
def off_Mul.l1 : Nat → Int → List Int → Int → Int → Option (Int × Bool)
 | 0, _, _, _, _ => none
 | k + 1, x6, x21, x22, x23 => if x23 < x22 then (if 0 ≤ x23 then (if x23 < (x21.length : Int) then (if x6 = 0 then (none) else (if (rd x21 x23) > (wrap64 ((4611686018427387904 : Int) / x6)) then (some (0, false)) else (off_Mul.l1 k (wrap64 (x6 * (rd x21 x23))) x21 x22 (wrap64 (x23 + 1))))) else (none)) else (none)) else (some (x6, true))
end
def off_Mul.f (k : Nat) (l0 : List Int) : Option (Int × Bool) := (off_all.f k l0).bind fun t126 => (if t126 = true then (off_Mul.l0 k l0 l0 (l0.length : Int) 0) else (some (0, false)))
theorem off_Mul.mono_l : ∀ k, (∀ y0 y1 y2 y3, LeO (off_Mul.l0 k y0 y1 y2 y3) (off_Mul.l0 (k + 1) y0 y1 y2 y3)) ∧ (∀ y0 y1 y2 y3, LeO (off_Mul.l1 k y0 y1 y2 y3) (off_Mul.l1 (k + 1) y0 y1 y2 y3))
 | 0 => ⟨fun _ _ _ _ r h => by simp [off_Mul.l0] at h, fun _ _ _ _ r h => by simp [off_Mul.l1] at h⟩
 | k + 1 => by
  obtain ⟨ih0, ih1⟩ := off_Mul.mono_l k
  refine ⟨?_, ?_⟩
  ·intro y0 y1 y2 y3
   unfold off_Mul.l0
   repeat' first
   | (with_reducible exact ih0 _ _ _ _)
   | (with_reducible exact ih1 _ _ _ _)
   | (with_reducible exact off_all.mono _ _)
   | (with_reducible exact LeO.refl _)
   | (with_reducible exact LeO.none _)
   | (with_reducible refine LeO.ite ?_ ?_)
   | (with_reducible refine LeO.bind ?_ (fun _ => ?_))
   | exact ih0 _ _ _ _
   | exact ih1 _ _ _ _
   | exact off_all.mono _ _
   | exact LeO.none _
   | refine LeO.ite ?_ ?_
   | refine LeO.bind ?_ (fun _ => ?_)
  ·intro y0 y1 y2 y3
   unfold off_Mul.l1
   repeat' first
   | (with_reducible exact ih0 _ _ _ _)
   | (with_reducible exact ih1 _ _ _ _)
   | (with_reducible exact off_all.mono _ _)
   | (with_reducible exact LeO.refl _)
   | (with_reducible exact LeO.none _)
   | (with_reducible refine LeO.ite ?_ ?_)
   | (with_reducible refine LeO.bind ?_ (fun _ => ?_))
   | exact ih0 _ _ _ _
   | exact ih1 _ _ _ _
   | exact off_all.mono _ _
   | exact LeO.none _
   | refine LeO.ite ?_ ?_
   | refine LeO.bind ?_ (fun _ => ?_)
theorem off_Mul.mono : ∀ a0 k, LeO (off_Mul.f k a0) (off_Mul.f (k + 1) a0) := by
 intro a0 k
 obtain ⟨ih0, ih1⟩ := off_Mul.mono_l k
 unfold off_Mul.f
 repeat' first
   | (with_reducible exact ih0 _ _ _ _)
   | (with_reducible exact ih1 _ _ _ _)
   | (with_reducible exact off_all.mono _ _)
   | (with_reducible exact LeO.refl _)
   | (with_reducible exact LeO.none _)
   | (with_reducible refine LeO.ite ?_ ?_)
   | (with_reducible refine LeO.bind ?_ (fun _ => ?_))
   | exact ih0 _ _ _ _
   | exact ih1 _ _ _ _
   | exact off_all.mono _ _
   | exact LeO.none _
   | refine LeO.ite ?_ ?_
   | refine LeO.bind ?_ (fun _ => ?_)
set_option maxHeartbeats 8000000 in
set_option maxRecDepth 100000 in
theorem off_Mul.calls (k : Nat) (A0 : Option Addr) (c0 : Nat) (l0 : List Int) (r1 : Int) (r2 : Bool) (w : World) (hr0 : Kd.C (Kd.int .i64) w A0 l0.length l0) (hc0 : l0.length ≤ c0) (h : off_Mul.f k l0 = some (r1, r2)) :
  Calls Tryd.prog 32 #[.slice A0 l0.length c0] w fun e w' => e = .returned (.tuple #[.int .i64 r1, .bool r2]) ∧ Drawn0 w w' := by
 have HR0 := Aside0.mk hr0
 have HC0 := Aside0.mk hc0
 clear hr0 hc0
 have H : ((off_all.f k l0).bind fun t126 => (if t126 = true then (off_Mul.l0 k l0 l0 (l0.length : Int) 0) else (some (0, false)))) = some (r1, r2) := h
 clear h
 replace H := Option.bind_eq_some_iff.mp H
 obtain ⟨t126, A20, H⟩ := H
 replace H : (if t126 = true then (off_Mul.l0 k l0 l0 (l0.length : Int) 0) else (some (0, false))) = some (r1, r2) := H
 have A2 := Aside0.mk A20
 clear A20
 by_cases c3 : t126 = true
 ·subst c3
  have H1 : (off_Mul.l0 k l0 l0 (l0.length : Int) 0) = some (r1, r2) := by rw [if_pos rfl] at H; exact H
  clear H
  have H := H1
  clear H1
  have H' := Aside0.mk H
  clear H
  go_enter Tryd.func32, Tryd.ntmps32
  go_wp2_with (first | ((with_reducible refine gate_callee (f := 43) rfl ?_); refine gl_ (some 10) rfl rfl Tryd.func43 (by kernel_rfl) rfl #[.slice A0 l0.length c0] rfl ?_; (with_reducible refine (off_all.calls k _ _ l0 true _ ?side1 ?side2 A2.out).mono ?_); (case side1 => repeat (first | exact HR0.out | (with_reducible refine Kd.C_alloc ?_ _) | (with_reducible refine Kd.C_drewN ?_ _) | (with_reducible refine Kd.C_drew ?_))); (case side2 => exact HC0.out); rintro e w' ⟨rfl, ⟨nd, rfl⟩⟩; refine ⟨_, rfl, ?_⟩))
  go_loopg [14] k (fun kq v14 w' => ∃ (x14_1 : Int), v14 = .int .i64 x14_1 ∧ Aside0 (off_Mul.l0 kq l0 l0 (l0.length : Int) x14_1 = some (r1, r2)) ∧ Aside0 (kq ≤ k) ∧ Drawn0 w w')
  case atStart => exact ⟨(0), (by first | rfl | (simp; done) | (simp [*]; done)), H', ⟨Nat.le_refl _⟩, by repeat (first | exact Drawn0.refl _ | apply Drawn0.step)⟩
  case round =>
   clear H'
   try clear p2
   try clear c3
   obtain ⟨x14_1, rfl, HA, HK1, ⟨m1, rfl⟩⟩ := hrel
   cases gk with
   | zero => exact absurd HA.out (by simp [off_Mul.l0])
   | succ k1 =>
    have H := HA.out
    clear HA
    simp only [off_Mul.l0] at H
    by_cases c4 : x14_1 < (l0.length : Int)
    ·rw [if_pos c4] at H
     have c4b0 : decide (x14_1 < (l0.length : Int)) = true := decide_eq_true c4
     clear c4
     by_cases c5 : 0 ≤ x14_1
     ·rw [if_pos c5] at H
      have c5b0 : decide (0 ≤ x14_1) = true := decide_eq_true c5
      clear c5
      by_cases c6 : x14_1 < (l0.length : Int)
      ·rw [if_pos c6] at H
       have c6b0 : decide (x14_1 < (l0.length : Int)) = true := decide_eq_true c6
       clear c6
       by_cases c7 : (rd l0 x14_1) = 0
       ·rw [if_pos c7] at H
        have c7b0 : ((rd l0 x14_1) == 0) = true := beq_iff_eq.mpr c7
        have c7b1 : ((rd l0 x14_1) != 0) = false := bne_eq_false_iff_eq.mpr c7
        clear c7
        simp only [Option.some.injEq, Prod.mk.injEq] at H
        obtain ⟨rfl, rfl⟩ := H
        have p127 : 0 ≤ (x14_1 : Int) := of_decide_eq_true (by first | (with_reducible assumption) | assumption)
        have q127 : x14_1 < (l0.length : Int) := of_decide_eq_true (by first | (with_reducible assumption) | assumption)
        obtain ⟨ad127, e127, hx127_0⟩ := Kd.at_int HR0.out x14_1 p127 q127
        cases e127
        replace p127 := eq_true p127
        replace q127 := eq_true q127
        go_wp2
        go_ret2
        exact ⟨by first | rfl | (simp; done) | (simp [*]; done), by repeat (first | exact Drawn0.refl _ | apply Drawn0.step)⟩
       ·rw [if_neg c7] at H
        have c7b0 : ((rd l0 x14_1) == 0) = false := beq_eq_false_iff_ne.mpr c7
        have c7b1 : ((rd l0 x14_1) != 0) = true := bne_iff_ne.mpr c7
        have H' := Aside0.mk H
        clear H
        have p127 : 0 ≤ (x14_1 : Int) := of_decide_eq_true (by first | (with_reducible assumption) | assumption)
        have q127 : x14_1 < (l0.length : Int) := of_decide_eq_true (by first | (with_reducible assumption) | assumption)
        obtain ⟨ad127, e127, hx127_0⟩ := Kd.at_int HR0.out x14_1 p127 q127
        cases e127
        replace p127 := eq_true p127
        replace q127 := eq_true q127
        go_wp2
        go_roundg k1
        case measure => have := HK1.out; omega
        case rel => exact ⟨(wrap64 (x14_1 + 1)), (by first | rfl | (simp; done) | (simp [*]; done)), H', ⟨by have := HK1.out; omega⟩, by repeat (first | exact Drawn0.refl _ | apply Drawn0.step)⟩
      ·rw [if_neg c6] at H
       exact absurd H (by simp)
     ·rw [if_neg c5] at H
      exact absurd H (by simp)
    ·rw [if_neg c4] at H
     have c4b0 : decide (x14_1 < (l0.length : Int)) = false := decide_eq_false c4
     clear c4
     have H' := Aside0.mk H
     clear H
     go_wp2
     go_loopg [6, 23] k1 (fun kq v6 v23 w' => ∃ (x6_2 : Int) (x23_2 : Int), v6 = .int .i64 x6_2 ∧ v23 = .int .i64 x23_2 ∧ Aside0 (off_Mul.l1 kq x6_2 l0 (l0.length : Int) x23_2 = some (r1, r2)) ∧ Aside0 (kq ≤ k1) ∧ Drawn0 w w')
     case atStart => exact ⟨(1), (0), (by first | rfl | (simp; done) | (simp [*]; done)), (by first | rfl | (simp; done) | (simp [*]; done)), H', ⟨Nat.le_refl _⟩, by repeat (first | exact Drawn0.refl _ | apply Drawn0.step)⟩
     case round =>
      clear H'
      try clear p1
      try clear q1
      try clear hx1
      try clear p2
      try clear c3
      try clear c4
      try clear c4b0
      try clear c5
      try clear c5b0
      try clear c6
      try clear c6b0
      try clear p6
      try clear c7
      try clear c7b0
      try clear c7b1
      try clear hx127_0
      try clear p127
      try clear p2
      try clear q127
      obtain ⟨x6_2, x23_2, rfl, rfl, HA, HK2, ⟨m2, rfl⟩⟩ := hrel
      cases gk with
      | zero => exact absurd HA.out (by simp [off_Mul.l1])
      | succ k2 =>
       have H := HA.out
       clear HA
       simp only [off_Mul.l1] at H
       by_cases c8 : x23_2 < (l0.length : Int)
       ·rw [if_pos c8] at H
        have c8b0 : decide (x23_2 < (l0.length : Int)) = true := decide_eq_true c8
        clear c8
        by_cases c9 : 0 ≤ x23_2
        ·rw [if_pos c9] at H
         have c9b0 : decide (0 ≤ x23_2) = true := decide_eq_true c9
         clear c9
         by_cases c10 : x23_2 < (l0.length : Int)
         ·rw [if_pos c10] at H
          have c10b0 : decide (x23_2 < (l0.length : Int)) = true := decide_eq_true c10
          clear c10
          by_cases c11 : x6_2 = 0
          ·rw [if_pos c11] at H
           exact absurd H (by simp)
          ·rw [if_neg c11] at H
           have c11b0 : (x6_2 == 0) = false := beq_eq_false_iff_ne.mpr c11
           have c11b1 : (x6_2 != 0) = true := bne_iff_ne.mpr c11
           by_cases c12 : (rd l0 x23_2) > (wrap64 ((4611686018427387904 : Int) / x6_2))
           ·rw [if_pos c12] at H
            have c12b0 : decide ((wrap64 ((4611686018427387904 : Int) / x6_2)) < (rd l0 x23_2)) = true := decide_eq_true c12
            have c12b8 : decide ((wrap64 (Int.tdiv 4611686018427387904 x6_2)) < (rd l0 x23_2)) = true := by simp only [Int.tdiv_eq_ediv_of_nonneg (show (0 : Int) ≤ 4611686018427387904 by omega)]; exact c12b0
            clear c12
            simp only [Option.some.injEq, Prod.mk.injEq] at H
            obtain ⟨rfl, rfl⟩ := H
            have p128 : 0 ≤ (x23_2 : Int) := of_decide_eq_true (by first | (with_reducible assumption) | assumption)
            have q128 : x23_2 < (l0.length : Int) := of_decide_eq_true (by first | (with_reducible assumption) | assumption)
            obtain ⟨ad128, e128, hx128_0⟩ := Kd.at_int HR0.out x23_2 p128 q128
            cases e128
            replace p128 := eq_true p128
            replace q128 := eq_true q128
            go_wp2
            go_ret2
            exact ⟨by first | rfl | (simp; done) | (simp [*]; done), by repeat (first | exact Drawn0.refl _ | apply Drawn0.step)⟩
           ·rw [if_neg c12] at H
            have c12b0 : decide ((wrap64 ((4611686018427387904 : Int) / x6_2)) < (rd l0 x23_2)) = false := decide_eq_false c12
            have c12b8 : decide ((wrap64 (Int.tdiv 4611686018427387904 x6_2)) < (rd l0 x23_2)) = false := by simp only [Int.tdiv_eq_ediv_of_nonneg (show (0 : Int) ≤ 4611686018427387904 by omega)]; exact c12b0
            clear c12
            have H' := Aside0.mk H
            clear H
            have p128 : 0 ≤ (x23_2 : Int) := of_decide_eq_true (by first | (with_reducible assumption) | assumption)
            have q128 : x23_2 < (l0.length : Int) := of_decide_eq_true (by first | (with_reducible assumption) | assumption)
            obtain ⟨ad128, e128, hx128_0⟩ := Kd.at_int HR0.out x23_2 p128 q128
            cases e128
            replace p128 := eq_true p128
            replace q128 := eq_true q128
            go_wp2
            go_roundg k2
            case measure => have := HK1.out; have := HK2.out; omega
            case rel => exact ⟨(wrap64 (x6_2 * (rd l0 x23_2))), (wrap64 (x23_2 + 1)), (by first | rfl | (simp; done) | (simp [*]; done)), (by first | rfl | (simp; done) | (simp [*]; done)), H', ⟨by have := HK1.out; have := HK2.out; omega⟩, by repeat (first | exact Drawn0.refl _ | apply Drawn0.step)⟩
         ·rw [if_neg c10] at H
          exact absurd H (by simp)
        ·rw [if_neg c9] at H
         exact absurd H (by simp)
       ·rw [if_neg c8] at H
        have c8b0 : decide (x23_2 < (l0.length : Int)) = false := decide_eq_false c8
        clear c8
        simp only [Option.some.injEq, Prod.mk.injEq] at H
        obtain ⟨rfl, rfl⟩ := H
        go_wp2
        go_ret2
        exact ⟨by first | rfl | (simp; done) | (simp [*]; done), by repeat (first | exact Drawn0.refl _ | apply Drawn0.step)⟩
 ·replace c3 := Bool.eq_false_iff.mpr c3
  subst c3
  have H1 : (some (0, false)) = some (r1, r2) := by rw [if_neg (show ¬ (false = true) by decide)] at H; exact H
  clear H
  have H := H1
  clear H1
  simp only [Option.some.injEq, Prod.mk.injEq] at H
  obtain ⟨rfl, rfl⟩ := H
  go_enter Tryd.func32, Tryd.ntmps32
  go_wp2_with (first | ((with_reducible refine gate_callee (f := 43) rfl ?_); refine gl_ (some 10) rfl rfl Tryd.func43 (by kernel_rfl) rfl #[.slice A0 l0.length c0] rfl ?_; (with_reducible refine (off_all.calls k _ _ l0 false _ ?side1 ?side2 A2.out).mono ?_); (case side1 => repeat (first | exact HR0.out | (with_reducible refine Kd.C_alloc ?_ _) | (with_reducible refine Kd.C_drewN ?_ _) | (with_reducible refine Kd.C_drew ?_))); (case side2 => exact HC0.out); rintro e w' ⟨rfl, ⟨nd, rfl⟩⟩; refine ⟨_, rfl, ?_⟩))
  go_ret2
  exact ⟨by first | rfl | (simp; done) | (simp [*]; done), by repeat (first | exact Drawn0.refl _ | apply Drawn0.step)⟩

-- none

-- none

-- none

-- NOT PRINTED: function 62 (strings_explode)

-- NOT PRINTED: function 64 (strings_Index)

-- none

-- NOT PRINTED: function 63 (strings_Count)

-- NOT PRINTED: function 57 (strings_genSplit)

end Go.Proofs.YtbmhfnncagncmaaDoor.P
