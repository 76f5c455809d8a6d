import Derived.Test.YtbmhfnncagncmaaGreatDoorPx22
import Derived.Test.YtbmhfnncagncmaaGreatDoorPx23
import Derived.Test.YtbmhfnncagncmaaGreatDoorPx24
namespace Go.Proofs.YtbmhfnncagncmaaGreatDoor.P
open Go.RowKit Go.Proofs.YtbmhfnncagncmaaGreatDoorW.PrintWords Go.Proofs.YtbmhfnncagncmaaGreatDoorW.PrintLast Go.Proofs.YtbmhfnncagncmaaGreatDoorW.PrintMore
attribute [local go_sem] max2_int min2_int max_two min_two max_three min_three max_four min_four
set_option linter.unusedVariables false
set_option linter.unusedSimpArgs false
mutual
def salvorref1_Get.l0 : Nat → ByteArray → List Int → Int → Option (Int × Bool)
 | 0, _, _, _ => none
 | k + 1, x0, x4, x5 => if x5 ≤ (x0.size : Int) then (salvorref1_Get.l1 k x0 x4 x5 x5) else ((salvorref1_Mul.f k x4).bind fun bt262 => (some (bt262.1, bt262.2)))
def salvorref1_Get.j2 : Nat → ByteArray → List Int → Int → Int → Option (Int × Bool)
 | 0, _, _, _, _ => none
 | k + 1, x0, x4, x5, x6 => salvorref1_Get.l2 k x0 x4 x5 x6 x5
def salvorref1_Get.j4 : Nat → ByteArray → List Int → Int → Int → Int → Option (Int × Bool)
 | 0, _, _, _, _, _ => none
 | k + 1, x0, x4, x5, x6, x7 => if 0 ≤ x5 then (if x5 ≤ x7 then (if x7 ≤ (x0.size : Int) then ((salvorref1_number.f k (x0.extract (x5 : Int).toNat (x7 : Int).toNat) 10 19).bind fun bt264 => (if 0 ≤ x7 then (if x7 ≤ x6 then (if x6 ≤ (x0.size : Int) then ((salvorref1_times.f (x0.extract (x7 : Int).toNat (x6 : Int).toNat)).bind fun t266 => (if bt264.2 = true then (salvorref1_Get.j5 k x0 x4 x6 bt264.1 t266 (t266 == 0)) else (salvorref1_Get.j5 k x0 x4 x6 bt264.1 t266 true))) else (none)) else (none)) else (none))) else (none)) else (none)) else (none)
def salvorref1_Get.j5 : Nat → ByteArray → List Int → Int → Int → Int → Bool → Option (Int × Bool)
 | 0, _, _, _, _, _, _ => none
 | k + 1, x0, x4, x6, x8, x10, x65 => if x65 = true then (some (0, false)) else ((salvorref1_Mul.f k (([x8, x10] : List Int))).bind fun bt270 => (if bt270.2 = true then (if x4.length < 17592186044416 then (salvorref1_Get.l0 k x0 (x4 ++ [bt270.1]) (wrap64 (x6 + 1))) else (none)) else (some (0, false))))
def salvorref1_Get.l2 : Nat → ByteArray → List Int → Int → Int → Int → Option (Int × Bool)
 | 0, _, _, _, _, _ => none
 | k + 1, x0, x4, x5, x6, x7 => if x7 < x6 then (if 0 ≤ x7 then (if x7 < (x0.size : Int) then (if (bt x0 x7) ≥ 48 then (if (bt x0 x7) ≤ 57 then (salvorref1_Get.l2 k x0 x4 x5 x6 (wrap64 (x7 + 1))) else (salvorref1_Get.j4 k x0 x4 x5 x6 x7)) else (salvorref1_Get.j4 k x0 x4 x5 x6 x7)) else (none)) else (none)) else (salvorref1_Get.j4 k x0 x4 x5 x6 x7)
def salvorref1_Get.l1 : Nat → ByteArray → List Int → Int → Int → Option (Int × Bool)
 | 0, _, _, _, _ => none
 | k + 1, x0, x4, x5, x6 => if x6 < (x0.size : Int) then (if 0 ≤ x6 then (if (bt x0 x6) = 120 then (salvorref1_Get.j2 k x0 x4 x5 x6) else (salvorref1_Get.l1 k x0 x4 x5 (wrap64 (x6 + 1)))) else (none)) else (salvorref1_Get.j2 k x0 x4 x5 x6)
end
def salvorref1_Get.f (k : Nat) (a0 : ByteArray) : Option (Int × Bool) := salvorref1_Get.l0 k a0 ([] : List Int) 0
theorem salvorref1_Get.mono_l : ∀ k, (∀ y0 y1 y2, LeO (salvorref1_Get.l0 k y0 y1 y2) (salvorref1_Get.l0 (k + 1) y0 y1 y2)) ∧ (∀ y0 y1 y2 y3, LeO (salvorref1_Get.j2 k y0 y1 y2 y3) (salvorref1_Get.j2 (k + 1) y0 y1 y2 y3)) ∧ (∀ y0 y1 y2 y3 y4, LeO (salvorref1_Get.j4 k y0 y1 y2 y3 y4) (salvorref1_Get.j4 (k + 1) y0 y1 y2 y3 y4)) ∧ (∀ y0 y1 y2 y3 y4 y5, LeO (salvorref1_Get.j5 k y0 y1 y2 y3 y4 y5) (salvorref1_Get.j5 (k + 1) y0 y1 y2 y3 y4 y5)) ∧ (∀ y0 y1 y2 y3 y4, LeO (salvorref1_Get.l2 k y0 y1 y2 y3 y4) (salvorref1_Get.l2 (k + 1) y0 y1 y2 y3 y4)) ∧ (∀ y0 y1 y2 y3, LeO (salvorref1_Get.l1 k y0 y1 y2 y3) (salvorref1_Get.l1 (k + 1) y0 y1 y2 y3))
 | 0 => ⟨fun _ _ _ r h => by simp [salvorref1_Get.l0] at h, fun _ _ _ _ r h => by simp [salvorref1_Get.j2] at h, fun _ _ _ _ _ r h => by simp [salvorref1_Get.j4] at h, fun _ _ _ _ _ _ r h => by simp [salvorref1_Get.j5] at h, fun _ _ _ _ _ r h => by simp [salvorref1_Get.l2] at h, fun _ _ _ _ r h => by simp [salvorref1_Get.l1] at h⟩
 | k + 1 => by
  obtain ⟨ih0, ih1, ih2, ih3, ih4, ih5⟩ := salvorref1_Get.mono_l k
  refine ⟨?_, ?_, ?_, ?_, ?_, ?_⟩
  ·intro y0 y1 y2
   unfold salvorref1_Get.l0
   repeat' first
   | (with_reducible exact ih0 _ _ _)
   | (with_reducible exact ih1 _ _ _ _)
   | (with_reducible exact ih2 _ _ _ _ _)
   | (with_reducible exact ih3 _ _ _ _ _ _)
   | (with_reducible exact ih4 _ _ _ _ _)
   | (with_reducible exact ih5 _ _ _ _)
   | (with_reducible exact salvorref1_Mul.mono _ _)
   | (with_reducible exact salvorref1_number.mono _ _ _ _)
   | (with_reducible exact LeO.refl _)
   | (with_reducible exact LeO.none _)
   | (with_reducible refine LeO.ite ?_ ?_)
   | (with_reducible refine LeO.bind ?_ (fun _ => ?_))
   | refine LeO.bind ?_ (fun _ => ?_)
  ·intro y0 y1 y2 y3
   unfold salvorref1_Get.j2
   repeat' first
   | (with_reducible exact ih0 _ _ _)
   | (with_reducible exact ih1 _ _ _ _)
   | (with_reducible exact ih2 _ _ _ _ _)
   | (with_reducible exact ih3 _ _ _ _ _ _)
   | (with_reducible exact ih4 _ _ _ _ _)
   | (with_reducible exact ih5 _ _ _ _)
   | (with_reducible exact salvorref1_Mul.mono _ _)
   | (with_reducible exact salvorref1_number.mono _ _ _ _)
   | (with_reducible exact LeO.refl _)
   | (with_reducible exact LeO.none _)
   | (with_reducible refine LeO.ite ?_ ?_)
   | (with_reducible refine LeO.bind ?_ (fun _ => ?_))
   | refine LeO.bind ?_ (fun _ => ?_)
  ·intro y0 y1 y2 y3 y4
   unfold salvorref1_Get.j4
   repeat' first
   | (with_reducible exact ih0 _ _ _)
   | (with_reducible exact ih1 _ _ _ _)
   | (with_reducible exact ih2 _ _ _ _ _)
   | (with_reducible exact ih3 _ _ _ _ _ _)
   | (with_reducible exact ih4 _ _ _ _ _)
   | (with_reducible exact ih5 _ _ _ _)
   | (with_reducible exact salvorref1_Mul.mono _ _)
   | (with_reducible exact salvorref1_number.mono _ _ _ _)
   | (with_reducible exact LeO.refl _)
   | (with_reducible exact LeO.none _)
   | (with_reducible refine LeO.ite ?_ ?_)
   | (with_reducible refine LeO.bind ?_ (fun _ => ?_))
   | refine LeO.bind ?_ (fun _ => ?_)
  ·intro y0 y1 y2 y3 y4 y5
   unfold salvorref1_Get.j5
   repeat' first
   | (with_reducible exact ih0 _ _ _)
   | (with_reducible exact ih1 _ _ _ _)
   | (with_reducible exact ih2 _ _ _ _ _)
   | (with_reducible exact ih3 _ _ _ _ _ _)
   | (with_reducible exact ih4 _ _ _ _ _)
   | (with_reducible exact ih5 _ _ _ _)
   | (with_reducible exact salvorref1_Mul.mono _ _)
   | (with_reducible exact salvorref1_number.mono _ _ _ _)
   | (with_reducible exact LeO.refl _)
   | (with_reducible exact LeO.none _)
   | (with_reducible refine LeO.ite ?_ ?_)
   | (with_reducible refine LeO.bind ?_ (fun _ => ?_))
   | refine LeO.bind ?_ (fun _ => ?_)
  ·intro y0 y1 y2 y3 y4
   unfold salvorref1_Get.l2
   repeat' first
   | (with_reducible exact ih0 _ _ _)
   | (with_reducible exact ih1 _ _ _ _)
   | (with_reducible exact ih2 _ _ _ _ _)
   | (with_reducible exact ih3 _ _ _ _ _ _)
   | (with_reducible exact ih4 _ _ _ _ _)
   | (with_reducible exact ih5 _ _ _ _)
   | (with_reducible exact salvorref1_Mul.mono _ _)
   | (with_reducible exact salvorref1_number.mono _ _ _ _)
   | (with_reducible exact LeO.refl _)
   | (with_reducible exact LeO.none _)
   | (with_reducible refine LeO.ite ?_ ?_)
   | (with_reducible refine LeO.bind ?_ (fun _ => ?_))
   | refine LeO.bind ?_ (fun _ => ?_)
  ·intro y0 y1 y2 y3
   unfold salvorref1_Get.l1
   repeat' first
   | (with_reducible exact ih0 _ _ _)
   | (with_reducible exact ih1 _ _ _ _)
   | (with_reducible exact ih2 _ _ _ _ _)
   | (with_reducible exact ih3 _ _ _ _ _ _)
   | (with_reducible exact ih4 _ _ _ _ _)
   | (with_reducible exact ih5 _ _ _ _)
   | (with_reducible exact salvorref1_Mul.mono _ _)
   | (with_reducible exact salvorref1_number.mono _ _ _ _)
   | (with_reducible exact LeO.refl _)
   | (with_reducible exact LeO.none _)
   | (with_reducible refine LeO.ite ?_ ?_)
   | (with_reducible refine LeO.bind ?_ (fun _ => ?_))
   | refine LeO.bind ?_ (fun _ => ?_)
theorem salvorref1_Get.mono : ∀ a0 k, LeO (salvorref1_Get.f k a0) (salvorref1_Get.f (k + 1) a0) := by
 intro a0 k
 obtain ⟨ih0, ih1, ih2, ih3, ih4, ih5⟩ := salvorref1_Get.mono_l k
 unfold salvorref1_Get.f
 repeat' first
   | (with_reducible exact ih0 _ _ _)
   | (with_reducible exact ih1 _ _ _ _)
   | (with_reducible exact ih2 _ _ _ _ _)
   | (with_reducible exact ih3 _ _ _ _ _ _)
   | (with_reducible exact ih4 _ _ _ _ _)
   | (with_reducible exact ih5 _ _ _ _)
   | (with_reducible exact salvorref1_Mul.mono _ _)
   | (with_reducible exact salvorref1_number.mono _ _ _ _)
   | (with_reducible exact LeO.refl _)
   | (with_reducible exact LeO.none _)
   | (with_reducible refine LeO.ite ?_ ?_)
   | (with_reducible refine LeO.bind ?_ (fun _ => ?_))
   | refine LeO.bind ?_ (fun _ => ?_)
set_option maxHeartbeats 8000000 in
set_option maxRecDepth 100000 in
theorem salvorref1_Get.calls (k : Nat) (a0 : ByteArray) (r1 : Int) (r2 : Bool) (w : World) (h : salvorref1_Get.f k a0 = some (r1, r2)) :
  Calls Tryz.prog 49 #[.string a0] w fun e w' => e = .returned (.tuple #[.int .i64 r1, .bool r2]) ∧ Below w.heap.size w w' := by
 have HB := Aside0.mk (Below.refl w.heap.size w)
 have H : (salvorref1_Get.l0 k a0 ([] : List Int) 0) = some (r1, r2) := h
 clear h
 have H' := Aside0.mk H
 clear H
 go_enter Tryz.func49, Tryz.ntmps49
 go_wp2
 go_loopg [4, 5] k (fun kq v4 v5 w' => ∃ (x4_1 : List Int) (x5_1 : Int), v5 = .int .i64 x5_1 ∧ Aside0 (salvorref1_Get.l0 kq a0 x4_1 x5_1 = some (r1, r2)) ∧ Aside0 (kq ≤ k) ∧ Aside0 (Kd.R (Kd.int .i64) 3 w' w.heap.size (fun _ => True) v4 x4_1) ∧ Aside0 (Below w.heap.size w w'))
 case atStart => exact ⟨(([] : List Int)), (0), (by first | rfl | (simp; done) | (simp [*]; done)), H', ⟨Nat.le_refl _⟩, ⟨by first | exact Kd.R_nil _ _ _ _ _ | exact Kd.N_nil _ _ _ _ _ | exact Kd.V_nil _ _ _ _ _ | exact Kd.Q_nil _ _ _ _ _ | exact Kd.S_nil _ _ _ _ _⟩, ⟨bh_ HB⟩⟩
 case round =>
  clear H'
  obtain ⟨x4_1, x5_1, rfl, HA, HK1, HO_4, HB⟩ := hrel
  cases gk with
  | zero => exact absurd HA.out (by simp [salvorref1_Get.l0])
  | succ k1 =>
   have H := HA.out
   clear HA
   simp only [salvorref1_Get.l0] at H
   by_cases c2 : x5_1 ≤ (a0.size : Int)
   ·rw [if_pos c2] at H
    have c2b0 : decide (x5_1 ≤ (a0.size : Int)) = true := decide_eq_true c2
    clear c2
    have HC3 := Aside0.mk H
    clear H
    go_upto_block 2 with (fail)
    go_cut [6] (fun v6 wc => ∃ (kq : Nat) (x6_2 : Int), v6 = .int .i64 x6_2 ∧ Aside0 (salvorref1_Get.j2 kq a0 x4_1 x5_1 x6_2 = some (r1, r2)) ∧ Aside0 (kq ≤ k1) ∧ Aside0 (Kd.R (Kd.int .i64) 3 wc w.heap.size (fun _ => True) u4 x4_1) ∧ Aside0 (Below w.heap.size w wc))
    case first =>
     have H := HC3.out
     clear HC3
     have H' := Aside0.mk H
     clear H
     go_wp2
     go_loopg [6] k1 (fun kq v6 w' => ∃ (x6_2 : Int), v6 = .int .i64 x6_2 ∧ Aside0 (salvorref1_Get.l1 kq a0 x4_1 x5_1 x6_2 = some (r1, r2)) ∧ Aside0 (kq ≤ k1) ∧ Aside0 (Kd.R (Kd.int .i64) 3 w' w.heap.size (fun _ => True) u4 x4_1) ∧ Aside0 (Below w.heap.size w w'))
     case atStart => exact ⟨(x5_1), (by first | rfl | (simp; done) | (simp [*]; done)), H', ⟨Nat.le_refl _⟩, ⟨by (with_reducible repeat (first | apply Kd.R_alloc | apply Kd.R_drewN | apply Kd.R_drew)); exact HO_4.out⟩, ⟨bh_ HB⟩⟩
     case round =>
      clear H'
      try clear c2
      try clear c2b0
      try clear p2
      obtain ⟨x6_2, rfl, HA, HK2, HO_4, HB⟩ := hrel
      cases gk with
      | zero => exact absurd HA.out (by simp [salvorref1_Get.l1])
      | succ k2 =>
       have H := HA.out
       clear HA
       simp only [salvorref1_Get.l1] at H
       by_cases c4 : x6_2 < (a0.size : Int)
       ·rw [if_pos c4] at H
        have c4b0 : decide (x6_2 < (a0.size : Int)) = true := decide_eq_true c4
        clear c4
        (first | rw [c4b0] | (simp only [i64_w, i32_w]; rw [c4b0]) | skip)
        by_cases c5 : 0 ≤ x6_2
        ·rw [if_pos c5] at H
         have c5b0 : decide (0 ≤ x6_2) = true := decide_eq_true c5
         clear c5
         by_cases c7 : (bt a0 x6_2) = 120
         ·rw [if_pos c7] at H
          have c7b0 : ((bt a0 x6_2) == 120) = true := beq_iff_eq.mpr c7
          have c7b1 : ((bt a0 x6_2) != 120) = false := bne_eq_false_iff_eq.mpr c7
          clear c7
          have H' := Aside0.mk H
          clear H
          have p6 : 0 ≤ (x6_2 : Int) := of_decide_eq_true (by first | (with_reducible assumption) | assumption)
          have q6 : x6_2 < (a0.size : Int) := of_decide_eq_true (by first | (with_reducible assumption) | assumption)
          have hx6 := bt_at a0 x6_2
          replace p6 := eq_true p6
          replace q6 := eq_true q6
          go_wp2
          go_meet
          case rel => exact ⟨_, (x6_2), (by first | rfl | (simp; done) | (simp [*]; done)), H', ⟨by have := HK1.out; have := HK2.out; first | omega | exact Nat.le_refl _⟩, ⟨by (with_reducible repeat (first | apply Kd.R_alloc | apply Kd.R_drewN | apply Kd.R_drew)); exact HO_4.out⟩, ⟨bh_ HB⟩⟩
         ·rw [if_neg c7] at H
          have c7b0 : ((bt a0 x6_2) == 120) = false := beq_eq_false_iff_ne.mpr c7
          have c7b1 : ((bt a0 x6_2) != 120) = true := bne_iff_ne.mpr c7
          have H' := Aside0.mk H
          clear H
          have p6 : 0 ≤ (x6_2 : Int) := of_decide_eq_true (by first | (with_reducible assumption) | assumption)
          have q6 : x6_2 < (a0.size : Int) := of_decide_eq_true (by first | (with_reducible assumption) | assumption)
          have hx6 := bt_at a0 x6_2
          replace p6 := eq_true p6
          replace q6 := eq_true q6
          go_wp2
          go_roundg k2
          case measure => have := HK1.out; have := HK2.out; omega
          case rel => exact ⟨(wrap64 (x6_2 + 1)), (by first | rfl | (simp; done) | (simp [*]; done)), H', ⟨by have := HK1.out; have := HK2.out; omega⟩, ⟨by (with_reducible repeat (first | apply Kd.R_alloc | apply Kd.R_drewN | apply Kd.R_drew)); exact HO_4.out⟩, ⟨bh_ HB⟩⟩
        ·rw [if_neg c5] at H
         exact absurd H (by simp)
       ·rw [if_neg c4] at H
        have c4b0 : decide (x6_2 < (a0.size : Int)) = false := decide_eq_false c4
        clear c4
        (first | rw [c4b0] | (simp only [i64_w, i32_w]; rw [c4b0]) | skip)
        have H' := Aside0.mk H
        clear H
        go_wp2
        go_meet
        case rel => exact ⟨_, (x6_2), (by first | rfl | (simp; done) | (simp [*]; done)), H', ⟨by have := HK1.out; have := HK2.out; first | omega | exact Nat.le_refl _⟩, ⟨by (with_reducible repeat (first | apply Kd.R_alloc | apply Kd.R_drewN | apply Kd.R_drew)); exact HO_4.out⟩, ⟨bh_ HB⟩⟩
    case rest =>
     clear HC3
     try clear c2
     try clear c2b0
     try clear p2
     try clear c4
     try clear c4b0
     try clear c5
     try clear c5b0
     try clear p6
     try clear q6
     try clear hx6
     try clear c7
     try clear c7b0
     try clear c7b1
     try clear p2
     try clear p6
     try clear q6
     obtain ⟨kq, x6_2, rfl, HA, HJ2, HO_4, HB⟩ := hcut
     cases kq with
     | zero => exact absurd HA.out (by simp [salvorref1_Get.j2])
     | succ kj2 =>
      have H := HA.out
      clear HA
      simp only [salvorref1_Get.j2] at H
      have HC8 := Aside0.mk H
      clear H
      go_upto_block 4 with (fail)
      go_cut [7] (fun v7 wc => ∃ (kq : Nat) (x7_7 : Int), v7 = .int .i64 x7_7 ∧ Aside0 (salvorref1_Get.j4 kq a0 x4_1 x5_1 x6_2 x7_7 = some (r1, r2)) ∧ Aside0 (kq ≤ kj2) ∧ Aside0 (Kd.R (Kd.int .i64) 3 wc w.heap.size (fun _ => True) u4 x4_1) ∧ Aside0 (Below w.heap.size w wc))
      case first =>
       have H := HC8.out
       clear HC8
       have H' := Aside0.mk H
       clear H
       go_wp2
       go_loopg [7] kj2 (fun kq v7 w' => ∃ (x7_3 : Int), v7 = .int .i64 x7_3 ∧ Aside0 (salvorref1_Get.l2 kq a0 x4_1 x5_1 x6_2 x7_3 = some (r1, r2)) ∧ Aside0 (kq ≤ kj2) ∧ Aside0 (Kd.R (Kd.int .i64) 3 w' w.heap.size (fun _ => True) u4 x4_1) ∧ Aside0 (Below w.heap.size w w'))
       case atStart => exact ⟨(x5_1), (by first | rfl | (simp; done) | (simp [*]; done)), H', ⟨Nat.le_refl _⟩, ⟨by (with_reducible repeat (first | apply Kd.R_alloc | apply Kd.R_drewN | apply Kd.R_drew)); exact HO_4.out⟩, ⟨bh_ HB⟩⟩
       case round =>
        clear H'
        try clear c2
        try clear c2b0
        try clear p2
        try clear c4
        try clear c4b0
        try clear c5
        try clear c5b0
        try clear p6
        try clear q6
        try clear hx6
        try clear c7
        try clear c7b0
        try clear c7b1
        try clear p2
        try clear p6
        try clear q6
        obtain ⟨x7_3, rfl, HA, HK3, HO_4, HB⟩ := hrel
        cases gk with
        | zero => exact absurd HA.out (by simp [salvorref1_Get.l2])
        | succ k3 =>
         have H := HA.out
         clear HA
         simp only [salvorref1_Get.l2] at H
         by_cases c9 : x7_3 < x6_2
         ·rw [if_pos c9] at H
          have c9b0 : decide (x7_3 < x6_2) = true := decide_eq_true c9
          clear c9
          (first | rw [c9b0] | (simp only [i64_w, i32_w]; rw [c9b0]) | skip)
          by_cases c10 : 0 ≤ x7_3
          ·rw [if_pos c10] at H
           have c10b0 : decide (0 ≤ x7_3) = true := decide_eq_true c10
           clear c10
           by_cases c11 : x7_3 < (a0.size : Int)
           ·rw [if_pos c11] at H
            have c11b0 : decide (x7_3 < (a0.size : Int)) = true := decide_eq_true c11
            clear c11
            by_cases c13 : (bt a0 x7_3) ≥ 48
            ·rw [if_pos c13] at H
             have c13b0 : decide (48 ≤ (bt a0 x7_3)) = true := decide_eq_true c13
             clear c13
             by_cases c15 : (bt a0 x7_3) ≤ 57
             ·rw [if_pos c15] at H
              have c15b0 : decide ((bt a0 x7_3) ≤ 57) = true := decide_eq_true c15
              clear c15
              have H' := Aside0.mk H
              clear H
              have p12 : 0 ≤ (x7_3 : Int) := of_decide_eq_true (by first | (with_reducible assumption) | assumption)
              have q12 : x7_3 < (a0.size : Int) := of_decide_eq_true (by first | (with_reducible assumption) | assumption)
              have hx12 := bt_at a0 x7_3
              replace p12 := eq_true p12
              replace q12 := eq_true q12
              have p14 : 0 ≤ (x7_3 : Int) := of_decide_eq_true (by first | (with_reducible assumption) | assumption)
              have q14 : x7_3 < (a0.size : Int) := of_decide_eq_true (by first | (with_reducible assumption) | assumption)
              have hx14 := bt_at a0 x7_3
              replace p14 := eq_true p14
              replace q14 := eq_true q14
              go_wp2
              go_roundg k3
              case measure => have := HK1.out; have := HJ2.out; have := HK3.out; omega
              case rel => exact ⟨(wrap64 (x7_3 + 1)), (by first | rfl | (simp; done) | (simp [*]; done)), H', ⟨by have := HK1.out; have := HJ2.out; have := HK3.out; omega⟩, ⟨by (with_reducible repeat (first | apply Kd.R_alloc | apply Kd.R_drewN | apply Kd.R_drew)); exact HO_4.out⟩, ⟨bh_ HB⟩⟩
             ·rw [if_neg c15] at H
              have c15b0 : decide ((bt a0 x7_3) ≤ 57) = false := decide_eq_false c15
              clear c15
              have H' := Aside0.mk H
              clear H
              have p12 : 0 ≤ (x7_3 : Int) := of_decide_eq_true (by first | (with_reducible assumption) | assumption)
              have q12 : x7_3 < (a0.size : Int) := of_decide_eq_true (by first | (with_reducible assumption) | assumption)
              have hx12 := bt_at a0 x7_3
              replace p12 := eq_true p12
              replace q12 := eq_true q12
              have p14 : 0 ≤ (x7_3 : Int) := of_decide_eq_true (by first | (with_reducible assumption) | assumption)
              have q14 : x7_3 < (a0.size : Int) := of_decide_eq_true (by first | (with_reducible assumption) | assumption)
              have hx14 := bt_at a0 x7_3
              replace p14 := eq_true p14
              replace q14 := eq_true q14
              go_wp2
              go_meet
              case rel => exact ⟨_, (x7_3), (by first | rfl | (simp; done) | (simp [*]; done)), H', ⟨by have := HK1.out; have := HJ2.out; have := HK3.out; first | omega | exact Nat.le_refl _⟩, ⟨by (with_reducible repeat (first | apply Kd.R_alloc | apply Kd.R_drewN | apply Kd.R_drew)); exact HO_4.out⟩, ⟨bh_ HB⟩⟩
            ·rw [if_neg c13] at H
             have c13b0 : decide (48 ≤ (bt a0 x7_3)) = false := decide_eq_false c13
             clear c13
             have H' := Aside0.mk H
             clear H
             have p12 : 0 ≤ (x7_3 : Int) := of_decide_eq_true (by first | (with_reducible assumption) | assumption)
             have q12 : x7_3 < (a0.size : Int) := of_decide_eq_true (by first | (with_reducible assumption) | assumption)
             have hx12 := bt_at a0 x7_3
             replace p12 := eq_true p12
             replace q12 := eq_true q12
             go_wp2
             go_meet
             case rel => exact ⟨_, (x7_3), (by first | rfl | (simp; done) | (simp [*]; done)), H', ⟨by have := HK1.out; have := HJ2.out; have := HK3.out; first | omega | exact Nat.le_refl _⟩, ⟨by (with_reducible repeat (first | apply Kd.R_alloc | apply Kd.R_drewN | apply Kd.R_drew)); exact HO_4.out⟩, ⟨bh_ HB⟩⟩
           ·rw [if_neg c11] at H
            exact absurd H (by simp)
          ·rw [if_neg c10] at H
           exact absurd H (by simp)
         ·rw [if_neg c9] at H
          have c9b0 : decide (x7_3 < x6_2) = false := decide_eq_false c9
          clear c9
          (first | rw [c9b0] | (simp only [i64_w, i32_w]; rw [c9b0]) | skip)
          have H' := Aside0.mk H
          clear H
          go_wp2
          go_meet
          case rel => exact ⟨_, (x7_3), (by first | rfl | (simp; done) | (simp [*]; done)), H', ⟨by have := HK1.out; have := HJ2.out; have := HK3.out; first | omega | exact Nat.le_refl _⟩, ⟨by (with_reducible repeat (first | apply Kd.R_alloc | apply Kd.R_drewN | apply Kd.R_drew)); exact HO_4.out⟩, ⟨bh_ HB⟩⟩
      case rest =>
       clear HC8
       try clear c1
       try clear p1
       try clear q1
       try clear hx1
       try clear c2
       try clear c2b0
       try clear p2
       try clear c4
       try clear c4b0
       try clear c5
       try clear c5b0
       try clear p6
       try clear q6
       try clear hx6
       try clear c7
       try clear c7b0
       try clear c7b1
       try clear c9
       try clear c9b0
       try clear c10
       try clear c10b0
       try clear c11
       try clear c11b0
       try clear p12
       try clear q12
       try clear hx12
       try clear c13
       try clear c13b0
       try clear p14
       try clear q14
       try clear hx14
       try clear c15
       try clear c15b0
       try clear p12
       try clear p14
       try clear p2
       try clear p6
       try clear q12
       try clear q14
       try clear q6
       obtain ⟨kq, x7_7, rfl, HA, HJ7, HO_4, HB⟩ := hcut
       cases kq with
       | zero => exact absurd HA.out (by simp [salvorref1_Get.j4])
       | succ kj7 =>
        have H := HA.out
        clear HA
        simp only [salvorref1_Get.j4] at H
        by_cases c16 : 0 ≤ x5_1
        ·rw [if_pos c16] at H
         have c16b0 := eq_true c16
         have c16b1 : decide (0 ≤ x5_1) = true := decide_eq_true c16
         clear c16
         by_cases c17 : x5_1 ≤ x7_7
         ·rw [if_pos c17] at H
          have c17b0 := eq_true c17
          have c17b1 : decide (x5_1 ≤ x7_7) = true := decide_eq_true c17
          clear c17
          by_cases c18 : x7_7 ≤ (a0.size : Int)
          ·rw [if_pos c18] at H
           have c18b0 := eq_true c18
           have c18b1 : decide (x7_7 ≤ (a0.size : Int)) = true := decide_eq_true c18
           clear c18
           replace H := Option.bind_eq_some_iff.mp H
           obtain ⟨⟨t264, t265⟩, A190, H⟩ := H
           replace H : (if 0 ≤ x7_7 then (if x7_7 ≤ x6_2 then (if x6_2 ≤ (a0.size : Int) then ((salvorref1_times.f (a0.extract (x7_7 : Int).toNat (x6_2 : Int).toNat)).bind fun t266 => (if t265 = true then (salvorref1_Get.j5 kj7 a0 x4_1 x6_2 t264 t266 (t266 == 0)) else (salvorref1_Get.j5 kj7 a0 x4_1 x6_2 t264 t266 true))) else (none)) else (none)) else (none)) = some (r1, r2) := H
           have A19 := Aside0.mk A190
           clear A190
           by_cases c20 : 0 ≤ x7_7
           ·rw [if_pos c20] at H
            have c20b0 := eq_true c20
            have c20b1 : decide (0 ≤ x7_7) = true := decide_eq_true c20
            clear c20
            by_cases c21 : x7_7 ≤ x6_2
            ·rw [if_pos c21] at H
             have c21b0 := eq_true c21
             have c21b1 : decide (x7_7 ≤ x6_2) = true := decide_eq_true c21
             clear c21
             by_cases c22 : x6_2 ≤ (a0.size : Int)
             ·rw [if_pos c22] at H
              have c22b0 := eq_true c22
              have c22b1 : decide (x6_2 ≤ (a0.size : Int)) = true := decide_eq_true c22
              clear c22
              replace H := Option.bind_eq_some_iff.mp H
              obtain ⟨t266, A230, H⟩ := H
              replace H : (if t265 = true then (salvorref1_Get.j5 kj7 a0 x4_1 x6_2 t264 t266 (t266 == 0)) else (salvorref1_Get.j5 kj7 a0 x4_1 x6_2 t264 t266 true)) = some (r1, r2) := H
              have A23 := Aside0.mk A230
              clear A230
              have HC24 := Aside0.mk H
              clear H
              go_upto_region 12 with (first | ((with_reducible refine gate_callee (f := 67) rfl ?_); refine gl_ (some 52) rfl rfl Tryz.func67 (by kernel_rfl) rfl #[.string (a0.extract (x5_1 : Int).toNat (x7_7 : Int).toNat), .int .u64 10, .int .i64 19] rfl ?_; (with_reducible refine (salvorref1_number.calls kj7 (a0.extract (x5_1 : Int).toNat (x7_7 : Int).toNat) 10 19 t264 t265 _ A19.out).mono ?_); rintro e w' ⟨rfl, ⟨nd, rfl⟩⟩; refine ⟨_, rfl, ?_⟩) | ((with_reducible refine gate_callee (f := 68) rfl ?_); refine gl_ (some 59) rfl rfl Tryz.func68 (by kernel_rfl) rfl #[.string (a0.extract (x7_7 : Int).toNat (x6_2 : Int).toNat)] rfl ?_; (with_reducible refine (salvorref1_times.calls (a0.extract (x7_7 : Int).toNat (x6_2 : Int).toNat) t266 _ A23.out).mono ?_); rintro e w' ⟨rfl, ⟨nd, rfl⟩⟩; refine ⟨_, rfl, ?_⟩))
              (try simp only [Act.put, List.setIfInBounds_toArray, List.set_cons_zero, List.set_cons_succ])
              go_cut [65] (fun v65 wc => ∃ (kq : Nat) (x65_23 : Bool), v65 = .bool x65_23 ∧ Aside0 (salvorref1_Get.j5 kq a0 x4_1 x6_2 t264 t266 x65_23 = some (r1, r2)) ∧ Aside0 (kq ≤ kj7) ∧ Aside0 (Kd.R (Kd.int .i64) 3 wc w.heap.size (fun _ => True) u4 x4_1) ∧ Aside0 (Below w.heap.size w wc))
              case first =>
               have H := HC24.out
               clear HC24
               by_cases c25 : t265 = true
               ·subst c25
                have H1 := H; rw [if_pos rfl] at H1
                clear H
                have H := H1
                clear H1
                have H' := Aside0.mk H
                clear H
                go_wp2
                go_meet
                case rel => exact ⟨_, ((t266 == 0)), (by first | rfl | (simp; done) | (simp [*]; done)), H', ⟨by have := HK1.out; have := HJ2.out; have := HJ7.out; first | omega | exact Nat.le_refl _⟩, ⟨by (with_reducible repeat (first | apply Kd.R_alloc | apply Kd.R_drewN | apply Kd.R_drew)); exact HO_4.out⟩, ⟨bh_ HB⟩⟩
               ·replace c25 := Bool.eq_false_iff.mpr c25
                subst c25
                have H1 : (salvorref1_Get.j5 kj7 a0 x4_1 x6_2 t264 t266 true) = some (r1, r2) := by rw [if_neg (show ¬ (false = true) by decide)] at H; exact H
                clear H
                have H := H1
                clear H1
                have H' := Aside0.mk H
                clear H
                go_wp2
                go_meet
                case rel => exact ⟨_, (true), (by first | rfl | (simp; done) | (simp [*]; done)), H', ⟨by have := HK1.out; have := HJ2.out; have := HJ7.out; first | omega | exact Nat.le_refl _⟩, ⟨by (with_reducible repeat (first | apply Kd.R_alloc | apply Kd.R_drewN | apply Kd.R_drew)); exact HO_4.out⟩, ⟨bh_ HB⟩⟩
              case rest =>
               clear HC24
               try clear c1
               try clear p1
               try clear q1
               try clear hx1
               try clear c2
               try clear c2b0
               try clear p2
               try clear c4
               try clear c4b0
               try clear c5
               try clear c5b0
               try clear c6
               try clear p6
               try clear q6
               try clear hx6
               try clear c7
               try clear c7b0
               try clear c7b1
               try clear c9
               try clear c9b0
               try clear c10
               try clear c10b0
               try clear c11
               try clear c11b0
               try clear p12
               try clear q12
               try clear hx12
               try clear c13
               try clear c13b0
               try clear p14
               try clear q14
               try clear hx14
               try clear c15
               try clear c15b0
               try clear c16
               try clear c16b0
               try clear c16b1
               try clear c17
               try clear c17b0
               try clear c17b1
               try clear c18
               try clear c18b0
               try clear c18b1
               try clear c20
               try clear c20b0
               try clear c20b1
               try clear c21
               try clear c21b0
               try clear c21b1
               try clear c22
               try clear c22b0
               try clear c22b1
               try clear c25
               try clear p1
               try clear p12
               try clear p14
               try clear p2
               try clear p6
               try clear q1
               try clear q12
               try clear q14
               try clear q6
               obtain ⟨kq, x65_23, rfl, HA, HJ23, HO_4, HB⟩ := hcut
               cases kq with
               | zero => exact absurd HA.out (by simp [salvorref1_Get.j5])
               | succ kj23 =>
                have H := HA.out
                clear HA
                simp only [salvorref1_Get.j5] at H
                by_cases c26 : x65_23 = true
                ·subst c26
                 have H1 := H; rw [if_pos rfl] at H1
                 clear H
                 have H := H1
                 clear H1
                 simp only [Option.some.injEq, Prod.mk.injEq] at H
                 obtain ⟨rfl, rfl⟩ := H
                 go_wp2
                 go_ret2
                 exact ⟨by first | rfl | (simp [errW_none, errW_some] <;> rfl) | (simp [*, errW_none, errW_some] <;> rfl), bh_ HB⟩
                ·replace c26 := Bool.eq_false_iff.mpr c26
                 subst c26
                 have H1 : ((salvorref1_Mul.f kj23 (([t264, t266] : List Int))).bind fun bt270 => (if bt270.2 = true then (if x4_1.length < 17592186044416 then (salvorref1_Get.l0 kj23 a0 (x4_1 ++ [bt270.1]) (wrap64 (x6_2 + 1))) else (none)) else (some (0, false)))) = some (r1, r2) := by rw [if_neg (show ¬ (false = true) by decide)] at H; exact H
                 clear H
                 have H := H1
                 clear H1
                 obtain ⟨y267, hy267⟩ : ∃ y_ : List Int, y_ = (([t264, t266] : List Int)) := ⟨_, rfl⟩
                 replace H : ((salvorref1_Mul.f kj23 y267).bind fun bt270 => (if bt270.2 = true then (if x4_1.length < 17592186044416 then (salvorref1_Get.l0 kj23 a0 (x4_1 ++ [bt270.1]) (wrap64 (x6_2 + 1))) else (none)) else (some (0, false)))) = some (r1, r2) := by first | (rw [hy267]; with_reducible exact H) | (have H2_ := (Option.bind_some _ _).symm.trans H; rw [hy267]; with_reducible exact H2_) | (have H2_ := (Option.bind_some _ _).symm.trans H; with_reducible exact H2_) | with_reducible exact H | (rw [hy267]; exact H) | exact H
                 have Ny267 := Aside0.mk hy267
                 clear hy267
                 replace H := Option.bind_eq_some_iff.mp H
                 obtain ⟨⟨t270, t271⟩, A270, H⟩ := H
                 replace H : (if t271 = true then (if x4_1.length < 17592186044416 then (salvorref1_Get.l0 kj23 a0 (x4_1 ++ [t270]) (wrap64 (x6_2 + 1))) else (none)) else (some (0, false))) = some (r1, r2) := H
                 have A27 := Aside0.mk A270
                 clear A270
                 by_cases c28 : t271 = true
                 ·subst c28
                  have H1 := H; rw [if_pos rfl] at H1
                  clear H
                  have H := H1
                  clear H1
                  by_cases c29 : x4_1.length < 17592186044416
                  ·rw [if_pos c29] at H
                   have LMc29 := Aside0.mk c29
                   clear c29
                   obtain ⟨y272, hy272⟩ : ∃ y_ : List Int, y_ = (x4_1 ++ [t270]) := ⟨_, rfl⟩
                   replace H : (salvorref1_Get.l0 kj23 a0 y272 (wrap64 (x6_2 + 1))) = some (r1, r2) := by first | (rw [hy272]; with_reducible exact H) | (have H2_ := (Option.bind_some _ _).symm.trans H; rw [hy272]; with_reducible exact H2_) | (have H2_ := (Option.bind_some _ _).symm.trans H; with_reducible exact H2_) | with_reducible exact H | (rw [hy272]; exact H) | exact H
                   have Ny272 := Aside0.mk hy272
                   clear hy272
                   have H' := Aside0.mk H
                   clear H
                   go_wp2_with (first | ((with_reducible refine gate_dst (N := 69) rfl ?_); refine Kd.R_lit (Kd.int .i64) _ 3 ?hg (N := 69) ?hd (xs := ([t264, t266] : List Int)) (inner := [.int .i64 t264, .int .i64 t266]) (ok := fun _ => True) (okp := fun _ => True) ?hr ?hp (fun _ hk => hk) trivial (Below.refl _ _) (Nat.le_refl _) (by simp) ?_; (case hd => rfl); (case hg => rfl); (case hr => first | (go_simp; done) | (go_simp; rfl)); (case hp => exact (Reps.one (show Kd.M (Kd.int .i64) _ _ _ t264 [.int .i64 t264] from rfl) (Reps.one (show Kd.M (Kd.int .i64) _ _ _ t266 [.int .i64 t266] from rfl) (Reps.none _ _)))); intro v268 w30 ho31 hb hg_ hnew_; clear hg_ hnew_; (first | rw [← Ny267.out] at ho31 | (simp only [Int.reduceToNat] at ho31; rw [← Ny267.out] at ho31)); have n0_ := Aside0.mk (Kd.R_elder' (by (with_reducible repeat (first | apply Kd.R_alloc | apply Kd.R_drewN | apply Kd.R_drew)); exact HO_4.out) (Kd.R_base ho31) hb); have n1_ := Aside0.mk (Kd.R_lower (Kd.R_new' ho31 (Kd.R_lt (by (with_reducible repeat (first | apply Kd.R_alloc | apply Kd.R_drewN | apply Kd.R_drew)); exact HO_4.out))) (below_size (bh_ HB))); have n2_ := bs_ HB hb; clear HO_4; clear HB; have HO_4 := n0_; have HO269 := n1_; have HB := n2_; clear n0_ n1_ n2_; clear hb ho31; obtain ⟨Ao32, co32, eo32⟩ := Kd.R_slice HO269.out; subst eo32) | ((with_reducible refine gate_callee (f := 24) rfl ?_); refine gl_ (some 70) rfl rfl Tryz.func24 (by kernel_rfl) rfl #[.slice Ao32 y267.length co32] rfl ?_; (with_reducible refine (salvorref1_Mul.calls kj23 _ _ y267 t270 true _ ?side1 ?side2 A27.out).mono ?_); (case side1 => repeat (first | exact (Kd.R_reads' HO269.out).2.2 | (with_reducible refine Kd.C_alloc ?_ _) | (with_reducible refine Kd.C_drewN ?_ _) | (with_reducible refine Kd.C_drew ?_))); (case side2 => exact (Kd.R_reads' HO269.out).2.1); rintro e w' ⟨rfl, ⟨nd, rfl⟩⟩; refine ⟨_, rfl, ?_⟩) | ((with_reducible refine gate_builtin (b := .append) (xs := #[.tmp 75, .tmp 77]) rfl ?_); at_builtin; refine Kd.R_append (Kd.int .i64) (w0 := w) w.heap.size rfl (.tmp 75) (.tmp 77) 59 3 (.int .i64 0) 8 rfl Tryz.underlying59 info3 rfl (by decide) (by omega) u4 x4_1 t270 [.int .i64 t270] (fun k_ => some k_ ≠ (.slice Ao32 y267.length co32 : Value).ownBlock) (fun _ => False) rfl rfl ?aP (fun _ hk => hk.elim) ?aF ?aO ?aB ?aS ?aL ?_; (case aP => exact rfl); (case aB => exact (bh_ HB)); (case aF => exact (fun k_ hk => Kd.fresh' (Kd.R_lt (by (with_reducible repeat (first | apply Kd.R_alloc | apply Kd.R_drewN | apply Kd.R_drew)); exact HO269.out)) k_ hk)); (case aO => exact (by (with_reducible repeat (first | apply Kd.R_alloc | apply Kd.R_drewN | apply Kd.R_drew)); exact Kd.R_mono HO_4.out (fun _ hk => hk.2))); (case aS => exact (below_size (bh_ HB))); (case aL => have := LMc29.out; omega); intro v273 w33 ho hb hg hat; rw [← Ny272.out] at ho; have n0_ := Aside0.mk (Kd.R_after (ok := (fun _ => True)) (by (with_reducible repeat (first | apply Kd.R_alloc | apply Kd.R_drewN | apply Kd.R_drew)); exact HO269.out) hg hat); have n1_ := Aside0.mk (hb); have n2_ := Aside0.mk (ho); clear HO269; clear HB; clear HO_4; have HO269 := n0_; have HB := n1_; have HO274 := n2_; clear n0_ n1_ n2_; clear ho hb hg hat))
                   go_roundg kj23
                   case measure => have := HK1.out; have := HJ2.out; have := HJ7.out; have := HJ23.out; omega
                   case rel => exact ⟨(y272), (wrap64 (x6_2 + 1)), (by first | rfl | (simp; done) | (simp [*]; done)), H', ⟨by have := HK1.out; have := HJ2.out; have := HJ7.out; have := HJ23.out; omega⟩, ⟨by (with_reducible repeat (first | apply Kd.R_alloc | apply Kd.R_drewN | apply Kd.R_drew)); exact Kd.R_mono HO274.out (fun _ hk => trivial)⟩, ⟨bh_ HB⟩⟩
                  ·rw [if_neg c29] at H
                   exact absurd H (by simp)
                 ·replace c28 := Bool.eq_false_iff.mpr c28
                  subst c28
                  have H1 : (some (0, false)) = some (r1, r2) := by rw [if_neg (show ¬ (false = true) by decide)] at H; exact H
                  clear H
                  have H := H1
                  clear H1
                  simp only [Option.some.injEq, Prod.mk.injEq] at H
                  obtain ⟨rfl, rfl⟩ := H
                  go_wp2_with (first | ((with_reducible refine gate_dst (N := 69) rfl ?_); refine Kd.R_lit (Kd.int .i64) _ 3 ?hg (N := 69) ?hd (xs := ([t264, t266] : List Int)) (inner := [.int .i64 t264, .int .i64 t266]) (ok := fun _ => True) (okp := fun _ => True) ?hr ?hp (fun _ hk => hk) trivial (Below.refl _ _) (Nat.le_refl _) (by simp) ?_; (case hd => rfl); (case hg => rfl); (case hr => first | (go_simp; done) | (go_simp; rfl)); (case hp => exact (Reps.one (show Kd.M (Kd.int .i64) _ _ _ t264 [.int .i64 t264] from rfl) (Reps.one (show Kd.M (Kd.int .i64) _ _ _ t266 [.int .i64 t266] from rfl) (Reps.none _ _)))); intro v268 w34 ho35 hb hg_ hnew_; clear hg_ hnew_; (first | rw [← Ny267.out] at ho35 | (simp only [Int.reduceToNat] at ho35; rw [← Ny267.out] at ho35)); have n0_ := Aside0.mk (Kd.R_elder' (by (with_reducible repeat (first | apply Kd.R_alloc | apply Kd.R_drewN | apply Kd.R_drew)); exact HO_4.out) (Kd.R_base ho35) hb); have n1_ := Aside0.mk (Kd.R_lower (Kd.R_new' ho35 (Kd.R_lt (by (with_reducible repeat (first | apply Kd.R_alloc | apply Kd.R_drewN | apply Kd.R_drew)); exact HO_4.out))) (below_size (bh_ HB))); have n2_ := bs_ HB hb; clear HO_4; clear HB; have HO_4 := n0_; have HO269 := n1_; have HB := n2_; clear n0_ n1_ n2_; clear hb ho35; obtain ⟨Ao36, co36, eo36⟩ := Kd.R_slice HO269.out; subst eo36) | ((with_reducible refine gate_callee (f := 24) rfl ?_); refine gl_ (some 70) rfl rfl Tryz.func24 (by kernel_rfl) rfl #[.slice Ao36 y267.length co36] rfl ?_; (with_reducible refine (salvorref1_Mul.calls kj23 _ _ y267 t270 false _ ?side1 ?side2 A27.out).mono ?_); (case side1 => repeat (first | exact (Kd.R_reads' HO269.out).2.2 | (with_reducible refine Kd.C_alloc ?_ _) | (with_reducible refine Kd.C_drewN ?_ _) | (with_reducible refine Kd.C_drew ?_))); (case side2 => exact (Kd.R_reads' HO269.out).2.1); rintro e w' ⟨rfl, ⟨nd, rfl⟩⟩; refine ⟨_, rfl, ?_⟩))
                  go_ret2
                  exact ⟨by first | rfl | (simp [errW_none, errW_some] <;> rfl) | (simp [*, errW_none, errW_some] <;> rfl), bh_ HB⟩
             ·rw [if_neg c22] at H
              exact absurd H (by simp)
            ·rw [if_neg c21] at H
             exact absurd H (by simp)
           ·rw [if_neg c20] at H
            exact absurd H (by simp)
          ·rw [if_neg c18] at H
           exact absurd H (by simp)
         ·rw [if_neg c17] at H
          exact absurd H (by simp)
        ·rw [if_neg c16] at H
         exact absurd H (by simp)
   ·rw [if_neg c2] at H
    have c2b0 : decide (x5_1 ≤ (a0.size : Int)) = false := decide_eq_false c2
    clear c2
    replace H := Option.bind_eq_some_iff.mp H
    obtain ⟨⟨t262, t263⟩, A370, H⟩ := H
    replace H : (some (t262, t263)) = some (r1, r2) := H
    have A37 := Aside0.mk A370
    clear A370
    simp only [Option.some.injEq, Prod.mk.injEq] at H
    obtain ⟨rfl, rfl⟩ := H
    obtain ⟨Ao38, co38, eo38⟩ := Kd.R_slice HO_4.out
    subst eo38
    go_wp2_with (first | ((with_reducible refine gate_callee (f := 24) rfl ?_); refine gl_ (some 82) rfl rfl Tryz.func24 (by kernel_rfl) rfl #[.slice Ao38 x4_1.length co38] rfl ?_; (with_reducible refine (salvorref1_Mul.calls k1 _ _ x4_1 t262 t263 _ ?side1 ?side2 A37.out).mono ?_); (case side1 => repeat (first | exact (Kd.R_reads' HO_4.out).2.2 | (with_reducible refine Kd.C_alloc ?_ _) | (with_reducible refine Kd.C_drewN ?_ _) | (with_reducible refine Kd.C_drew ?_))); (case side2 => exact (Kd.R_reads' HO_4.out).2.1); rintro e w' ⟨rfl, ⟨nd, rfl⟩⟩; refine ⟨_, rfl, ?_⟩))
    go_ret2
    exact ⟨by first | rfl | (simp [errW_none, errW_some] <;> rfl) | (simp [*, errW_none, errW_some] <;> rfl), bh_ HB⟩
end Go.Proofs.YtbmhfnncagncmaaGreatDoor.P
