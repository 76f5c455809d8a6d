import Derived.Test.YtbmhfnncagncmaaGreatDoorPx0
namespace Go.Proofs.YtbmhfnncagncmaaGreatDoor.P
open Go.RowKit Go.Proofs.YtbmhfnncagncmaaGreatDoorW.PrintWords Go.Proofs.YtbmhfnncagncmaaGreatDoorW.PrintLast Go.Proofs.YtbmhfnncagncmaaGreatDoorW.PrintMore
attribute [local go_sem] max2_int min2_int max_two min_two max_three min_three max_four min_four
set_option linter.unusedVariables false
set_option linter.unusedSimpArgs false
def image_may.f (a0 : Int) : Option (Bool) := if a0 ≥ 97 then (if a0 ≤ 122 then (some true) else (if a0 ≥ 48 then (if a0 ≤ 57 then (some true) else (if a0 = 46 then (some true) else (if a0 = 95 then (some true) else (some (a0 == 45))))) else (if a0 = 46 then (some true) else (if a0 = 95 then (some true) else (some (a0 == 45)))))) else (if a0 ≥ 48 then (if a0 ≤ 57 then (some true) else (if a0 = 46 then (some true) else (if a0 = 95 then (some true) else (some (a0 == 45))))) else (if a0 = 46 then (some true) else (if a0 = 95 then (some true) else (some (a0 == 45)))))
set_option maxHeartbeats 8000000 in
set_option maxRecDepth 100000 in
theorem image_may.calls (a0 : Int) (r : Bool) (w : World) (h : image_may.f a0 = some r) :
  Calls Tryz.prog 60 #[.int .u8 a0] w fun e w' => e = .returned (.bool r) ∧ Drawn0 w w' := by
 have H : (if a0 ≥ 97 then (if a0 ≤ 122 then (some true) else (if a0 ≥ 48 then (if a0 ≤ 57 then (some true) else (if a0 = 46 then (some true) else (if a0 = 95 then (some true) else (some (a0 == 45))))) else (if a0 = 46 then (some true) else (if a0 = 95 then (some true) else (some (a0 == 45)))))) else (if a0 ≥ 48 then (if a0 ≤ 57 then (some true) else (if a0 = 46 then (some true) else (if a0 = 95 then (some true) else (some (a0 == 45))))) else (if a0 = 46 then (some true) else (if a0 = 95 then (some true) else (some (a0 == 45)))))) = some r := h
 clear h
 by_cases c2 : a0 ≥ 97
 ·rw [if_pos c2] at H
  have c2b0 : decide (97 ≤ a0) = true := decide_eq_true c2
  clear c2
  by_cases c3 : a0 ≤ 122
  ·rw [if_pos c3] at H
   have c3b0 : decide (a0 ≤ 122) = true := decide_eq_true c3
   clear c3
   obtain rfl := Option.some.inj H
   go_enter Tryz.func60, Tryz.ntmps60
   go_wp2
   go_ret
   exact ⟨by first | rfl | (simp; done) | (simp [*]; done), by repeat (first | exact Drawn0.refl _ | apply Drawn0.step)⟩
  ·rw [if_neg c3] at H
   have c3b0 : decide (a0 ≤ 122) = false := decide_eq_false c3
   clear c3
   by_cases c4 : a0 ≥ 48
   ·rw [if_pos c4] at H
    have c4b0 : decide (48 ≤ a0) = true := decide_eq_true c4
    clear c4
    by_cases c5 : a0 ≤ 57
    ·rw [if_pos c5] at H
     have c5b0 : decide (a0 ≤ 57) = true := decide_eq_true c5
     clear c5
     obtain rfl := Option.some.inj H
     go_enter Tryz.func60, Tryz.ntmps60
     go_wp2
     go_ret
     exact ⟨by first | rfl | (simp; done) | (simp [*]; done), by repeat (first | exact Drawn0.refl _ | apply Drawn0.step)⟩
    ·rw [if_neg c5] at H
     have c5b0 : decide (a0 ≤ 57) = false := decide_eq_false c5
     clear c5
     by_cases c6 : a0 = 46
     ·rw [if_pos c6] at H
      have c6b0 : (a0 == 46) = true := beq_iff_eq.mpr c6
      have c6b1 : (a0 != 46) = false := bne_eq_false_iff_eq.mpr c6
      clear c6
      obtain rfl := Option.some.inj H
      go_enter Tryz.func60, Tryz.ntmps60
      go_wp2
      go_ret
      exact ⟨by first | rfl | (simp; done) | (simp [*]; done), by repeat (first | exact Drawn0.refl _ | apply Drawn0.step)⟩
     ·rw [if_neg c6] at H
      have c6b0 : (a0 == 46) = false := beq_eq_false_iff_ne.mpr c6
      have c6b1 : (a0 != 46) = true := bne_iff_ne.mpr c6
      by_cases c7 : a0 = 95
      ·rw [if_pos c7] at H
       have c7b0 : (a0 == 95) = true := beq_iff_eq.mpr c7
       have c7b1 : (a0 != 95) = false := bne_eq_false_iff_eq.mpr c7
       clear c7
       obtain rfl := Option.some.inj H
       go_enter Tryz.func60, Tryz.ntmps60
       go_wp2
       go_ret
       exact ⟨by first | rfl | (simp; done) | (simp [*]; done), by repeat (first | exact Drawn0.refl _ | apply Drawn0.step)⟩
      ·rw [if_neg c7] at H
       have c7b0 : (a0 == 95) = false := beq_eq_false_iff_ne.mpr c7
       have c7b1 : (a0 != 95) = true := bne_iff_ne.mpr c7
       obtain rfl := Option.some.inj H
       go_enter Tryz.func60, Tryz.ntmps60
       go_wp2
       go_ret
       exact ⟨by first | rfl | (simp; done) | (simp [*]; done), by repeat (first | exact Drawn0.refl _ | apply Drawn0.step)⟩
   ·rw [if_neg c4] at H
    have c4b0 : decide (48 ≤ a0) = false := decide_eq_false c4
    clear c4
    by_cases c8 : a0 = 46
    ·rw [if_pos c8] at H
     have c8b0 : (a0 == 46) = true := beq_iff_eq.mpr c8
     have c8b1 : (a0 != 46) = false := bne_eq_false_iff_eq.mpr c8
     clear c8
     obtain rfl := Option.some.inj H
     go_enter Tryz.func60, Tryz.ntmps60
     go_wp2
     go_ret
     exact ⟨by first | rfl | (simp; done) | (simp [*]; done), by repeat (first | exact Drawn0.refl _ | apply Drawn0.step)⟩
    ·rw [if_neg c8] at H
     have c8b0 : (a0 == 46) = false := beq_eq_false_iff_ne.mpr c8
     have c8b1 : (a0 != 46) = true := bne_iff_ne.mpr c8
     by_cases c9 : a0 = 95
     ·rw [if_pos c9] at H
      have c9b0 : (a0 == 95) = true := beq_iff_eq.mpr c9
      have c9b1 : (a0 != 95) = false := bne_eq_false_iff_eq.mpr c9
      clear c9
      obtain rfl := Option.some.inj H
      go_enter Tryz.func60, Tryz.ntmps60
      go_wp2
      go_ret
      exact ⟨by first | rfl | (simp; done) | (simp [*]; done), by repeat (first | exact Drawn0.refl _ | apply Drawn0.step)⟩
     ·rw [if_neg c9] at H
      have c9b0 : (a0 == 95) = false := beq_eq_false_iff_ne.mpr c9
      have c9b1 : (a0 != 95) = true := bne_iff_ne.mpr c9
      obtain rfl := Option.some.inj H
      go_enter Tryz.func60, Tryz.ntmps60
      go_wp2
      go_ret
      exact ⟨by first | rfl | (simp; done) | (simp [*]; done), by repeat (first | exact Drawn0.refl _ | apply Drawn0.step)⟩
 ·rw [if_neg c2] at H
  have c2b0 : decide (97 ≤ a0) = false := decide_eq_false c2
  clear c2
  by_cases c10 : a0 ≥ 48
  ·rw [if_pos c10] at H
   have c10b0 : decide (48 ≤ a0) = true := decide_eq_true c10
   clear c10
   by_cases c11 : a0 ≤ 57
   ·rw [if_pos c11] at H
    have c11b0 : decide (a0 ≤ 57) = true := decide_eq_true c11
    clear c11
    obtain rfl := Option.some.inj H
    go_enter Tryz.func60, Tryz.ntmps60
    go_wp2
    go_ret
    exact ⟨by first | rfl | (simp; done) | (simp [*]; done), by repeat (first | exact Drawn0.refl _ | apply Drawn0.step)⟩
   ·rw [if_neg c11] at H
    have c11b0 : decide (a0 ≤ 57) = false := decide_eq_false c11
    clear c11
    by_cases c12 : a0 = 46
    ·rw [if_pos c12] at H
     have c12b0 : (a0 == 46) = true := beq_iff_eq.mpr c12
     have c12b1 : (a0 != 46) = false := bne_eq_false_iff_eq.mpr c12
     clear c12
     obtain rfl := Option.some.inj H
     go_enter Tryz.func60, Tryz.ntmps60
     go_wp2
     go_ret
     exact ⟨by first | rfl | (simp; done) | (simp [*]; done), by repeat (first | exact Drawn0.refl _ | apply Drawn0.step)⟩
    ·rw [if_neg c12] at H
     have c12b0 : (a0 == 46) = false := beq_eq_false_iff_ne.mpr c12
     have c12b1 : (a0 != 46) = true := bne_iff_ne.mpr c12
     by_cases c13 : a0 = 95
     ·rw [if_pos c13] at H
      have c13b0 : (a0 == 95) = true := beq_iff_eq.mpr c13
      have c13b1 : (a0 != 95) = false := bne_eq_false_iff_eq.mpr c13
      clear c13
      obtain rfl := Option.some.inj H
      go_enter Tryz.func60, Tryz.ntmps60
      go_wp2
      go_ret
      exact ⟨by first | rfl | (simp; done) | (simp [*]; done), by repeat (first | exact Drawn0.refl _ | apply Drawn0.step)⟩
     ·rw [if_neg c13] at H
      have c13b0 : (a0 == 95) = false := beq_eq_false_iff_ne.mpr c13
      have c13b1 : (a0 != 95) = true := bne_iff_ne.mpr c13
      obtain rfl := Option.some.inj H
      go_enter Tryz.func60, Tryz.ntmps60
      go_wp2
      go_ret
      exact ⟨by first | rfl | (simp; done) | (simp [*]; done), by repeat (first | exact Drawn0.refl _ | apply Drawn0.step)⟩
  ·rw [if_neg c10] at H
   have c10b0 : decide (48 ≤ a0) = false := decide_eq_false c10
   clear c10
   by_cases c14 : a0 = 46
   ·rw [if_pos c14] at H
    have c14b0 : (a0 == 46) = true := beq_iff_eq.mpr c14
    have c14b1 : (a0 != 46) = false := bne_eq_false_iff_eq.mpr c14
    clear c14
    obtain rfl := Option.some.inj H
    go_enter Tryz.func60, Tryz.ntmps60
    go_wp2
    go_ret
    exact ⟨by first | rfl | (simp; done) | (simp [*]; done), by repeat (first | exact Drawn0.refl _ | apply Drawn0.step)⟩
   ·rw [if_neg c14] at H
    have c14b0 : (a0 == 46) = false := beq_eq_false_iff_ne.mpr c14
    have c14b1 : (a0 != 46) = true := bne_iff_ne.mpr c14
    by_cases c15 : a0 = 95
    ·rw [if_pos c15] at H
     have c15b0 : (a0 == 95) = true := beq_iff_eq.mpr c15
     have c15b1 : (a0 != 95) = false := bne_eq_false_iff_eq.mpr c15
     clear c15
     obtain rfl := Option.some.inj H
     go_enter Tryz.func60, Tryz.ntmps60
     go_wp2
     go_ret
     exact ⟨by first | rfl | (simp; done) | (simp [*]; done), by repeat (first | exact Drawn0.refl _ | apply Drawn0.step)⟩
    ·rw [if_neg c15] at H
     have c15b0 : (a0 == 95) = false := beq_eq_false_iff_ne.mpr c15
     have c15b1 : (a0 != 95) = true := bne_iff_ne.mpr c15
     obtain rfl := Option.some.inj H
     go_enter Tryz.func60, Tryz.ntmps60
     go_wp2
     go_ret
     exact ⟨by first | rfl | (simp; done) | (simp [*]; done), by repeat (first | exact Drawn0.refl _ | apply Drawn0.step)⟩
mutual
def image_MayName.j0 : Nat → ByteArray → Bool → Option (Bool)
 | 0, _, _ => none
 | k + 1, x0, x15 => if x15 = true then (some false) else (image_MayName.l0 k x0 (x0.size : Int) 0)
def image_MayName.l0 : Nat → ByteArray → Int → Int → Option (Bool)
 | 0, _, _, _ => none
 | k + 1, x0, x17, x18 => if x18 < x17 then (if 0 ≤ x18 then (if x18 < (x0.size : Int) then ((image_may.f (bt x0 x18)).bind fun t119 => (if t119 = true then (image_MayName.l0 k x0 x17 (wrap64 (x18 + 1))) else (some false))) else (none)) else (none)) else (some true)
end
def image_MayName.f (k : Nat) (a0 : ByteArray) : Option (Bool) := if a0.toList = ([] : List UInt8) then (image_MayName.j0 k a0 true) else (if (a0.size : Int) > 20 then (image_MayName.j0 k a0 true) else (if 0 < (a0.size : Int) then (image_MayName.j0 k a0 ((bt a0 0) == 45)) else (none)))
theorem image_MayName.mono_l : ∀ k, (∀ y0 y1, LeO (image_MayName.j0 k y0 y1) (image_MayName.j0 (k + 1) y0 y1)) ∧ (∀ y0 y1 y2, LeO (image_MayName.l0 k y0 y1 y2) (image_MayName.l0 (k + 1) y0 y1 y2))
 | 0 => ⟨fun _ _ r h => by simp [image_MayName.j0] at h, fun _ _ _ r h => by simp [image_MayName.l0] at h⟩
 | k + 1 => by
  obtain ⟨ih0, ih1⟩ := image_MayName.mono_l k
  refine ⟨?_, ?_⟩
  ·intro y0 y1
   unfold image_MayName.j0
   repeat' first
   | (with_reducible exact ih0 _ _)
   | (with_reducible exact ih1 _ _ _)
   | (with_reducible exact LeO.refl _)
   | (with_reducible exact LeO.none _)
   | (with_reducible refine LeO.ite ?_ ?_)
   | (with_reducible refine LeO.bind ?_ (fun _ => ?_))
   | refine LeO.bind ?_ (fun _ => ?_)
  ·intro y0 y1 y2
   unfold image_MayName.l0
   repeat' first
   | (with_reducible exact ih0 _ _)
   | (with_reducible exact ih1 _ _ _)
   | (with_reducible exact LeO.refl _)
   | (with_reducible exact LeO.none _)
   | (with_reducible refine LeO.ite ?_ ?_)
   | (with_reducible refine LeO.bind ?_ (fun _ => ?_))
   | refine LeO.bind ?_ (fun _ => ?_)
theorem image_MayName.mono : ∀ a0 k, LeO (image_MayName.f k a0) (image_MayName.f (k + 1) a0) := by
 intro a0 k
 obtain ⟨ih0, ih1⟩ := image_MayName.mono_l k
 unfold image_MayName.f
 repeat' first
   | (with_reducible exact ih0 _ _)
   | (with_reducible exact ih1 _ _ _)
   | (with_reducible exact LeO.refl _)
   | (with_reducible exact LeO.none _)
   | (with_reducible refine LeO.ite ?_ ?_)
   | (with_reducible refine LeO.bind ?_ (fun _ => ?_))
   | refine LeO.bind ?_ (fun _ => ?_)
set_option maxHeartbeats 8000000 in
set_option maxRecDepth 100000 in
theorem image_MayName.calls (k : Nat) (a0 : ByteArray) (r : Bool) (w : World) (h : image_MayName.f k a0 = some r) :
  Calls Tryz.prog 35 #[.string a0] w fun e w' => e = .returned (.bool r) ∧ Drawn0 w w' := by
 have H : (if a0.toList = ([] : List UInt8) then (image_MayName.j0 k a0 true) else (if (a0.size : Int) > 20 then (image_MayName.j0 k a0 true) else (if 0 < (a0.size : Int) then (image_MayName.j0 k a0 ((bt a0 0) == 45)) else (none)))) = some r := h
 clear h
 have HC2 := Aside0.mk H
 clear H
 go_enter Tryz.func35, Tryz.ntmps35
 go_upto_region 1 with (fail)
 go_cut [15] (fun v15 wc => ∃ (kq : Nat) (x15_1 : Bool), v15 = .bool x15_1 ∧ Aside0 (image_MayName.j0 kq a0 x15_1 = some r) ∧ Aside0 (kq ≤ k) ∧ Drawn0 w wc)
 case first =>
  have H := HC2.out
  clear HC2
  by_cases c3 : a0.toList = ([] : List UInt8)
  ·rw [if_pos c3] at H
   have c3b0 : (a0.toList == ([] : List UInt8)) = true := beq_iff_eq.mpr c3
   have c3b1 : (a0.toList != ([] : List UInt8)) = false := bne_eq_false_iff_eq.mpr c3
   clear c3
   (first | rw [c3b0] | (simp only [i64_w, i32_w]; rw [c3b0]) | skip)
   have H' := Aside0.mk H
   clear H
   go_wp2
   go_meet
   case rel => exact ⟨_, (true), (by first | rfl | (simp; done) | (simp [*]; done)), H', ⟨by first | omega | exact Nat.le_refl _⟩, by repeat (first | exact Drawn0.refl _ | apply Drawn0.step)⟩
  ·rw [if_neg c3] at H
   have c3b0 : (a0.toList == ([] : List UInt8)) = false := beq_eq_false_iff_ne.mpr c3
   have c3b1 : (a0.toList != ([] : List UInt8)) = true := bne_iff_ne.mpr c3
   (first | rw [c3b0] | (simp only [i64_w, i32_w]; rw [c3b0]) | skip)
   by_cases c4 : (a0.size : Int) > 20
   ·rw [if_pos c4] at H
    have c4b0 : decide (20 < (a0.size : Int)) = true := decide_eq_true c4
    have c4b1 : decide (20 < a0.size) = true := decide_eq_true (by omega)
    clear c4
    have H' := Aside0.mk H
    clear H
    go_wp2
    go_meet
    case rel => exact ⟨_, (true), (by first | rfl | (simp; done) | (simp [*]; done)), H', ⟨by first | omega | exact Nat.le_refl _⟩, by repeat (first | exact Drawn0.refl _ | apply Drawn0.step)⟩
   ·rw [if_neg c4] at H
    have c4b0 : decide (20 < (a0.size : Int)) = false := decide_eq_false c4
    have c4b1 : decide (20 < a0.size) = false := decide_eq_false (by omega)
    clear c4
    by_cases c5 : 0 < (a0.size : Int)
    ·rw [if_pos c5] at H
     have c5b0 : decide (0 < (a0.size : Int)) = true := decide_eq_true c5
     have c5b1 : decide (0 < a0.size) = true := decide_eq_true (by omega)
     clear c5
     have H' := Aside0.mk H
     clear H
     have p6 : 0 ≤ (0 : Int) := (by omega)
     have q6 : 0 < a0.size := (by have : (0 : Int) < (a0.size : Int) := of_decide_eq_true (by first | (with_reducible assumption) | assumption); omega)
     have hx6 : ∀ h : 0 < a0.size, ((a0[0]'h).toNat : Int) = bt a0 0 := bt_at a0 0
     clear p6
     have qi6 : (0 < (a0.size : Int)) = True := eq_true (of_decide_eq_true (by first | (with_reducible assumption) | assumption))
     replace q6 := eq_true q6
     go_wp2
     go_meet
     case rel => exact ⟨_, (((bt a0 0) == 45)), (by first | rfl | (simp; done) | (simp [*]; done)), H', ⟨by first | omega | exact Nat.le_refl _⟩, by repeat (first | exact Drawn0.refl _ | apply Drawn0.step)⟩
    ·rw [if_neg c5] at H
     exact absurd H (by simp)
 case rest =>
  clear HC2
  try clear p2
  try clear c3
  try clear c3b0
  try clear c3b1
  try clear c4
  try clear c4b0
  try clear c4b1
  try clear c5
  try clear c5b0
  try clear c5b1
  try clear p6
  try clear q6
  try clear hx6
  try clear qi6
  try clear p6
  try clear q6
  obtain ⟨kq, x15_1, rfl, HA, HJ1, ⟨mc1, rfl⟩⟩ := hcut
  cases kq with
  | zero => exact absurd HA.out (by simp [image_MayName.j0])
  | succ kj1 =>
   have H := HA.out
   clear HA
   simp only [image_MayName.j0] at H
   by_cases c7 : x15_1 = true
   ·subst c7
    have H1 := H; rw [if_pos rfl] at H1
    clear H
    have H := H1
    clear H1
    obtain rfl := Option.some.inj H
    go_wp2
    go_ret
    exact ⟨by first | rfl | (simp; done) | (simp [*]; done), by repeat (first | exact Drawn0.refl _ | apply Drawn0.step)⟩
   ·replace c7 := Bool.eq_false_iff.mpr c7
    subst c7
    have H1 : (image_MayName.l0 kj1 a0 (a0.size : Int) 0) = some r := by rw [if_neg (show ¬ (false = true) by decide)] at H; exact H
    clear H
    have H := H1
    clear H1
    have H' := Aside0.mk H
    clear H
    go_wp2
    go_loopg [18] kj1 (fun kq v18 w' => ∃ (x18_2 : Int), v18 = .int .i64 x18_2 ∧ Aside0 (image_MayName.l0 kq a0 (a0.size : Int) x18_2 = some r) ∧ Aside0 (kq ≤ kj1) ∧ Drawn0 w w')
    case atStart => exact ⟨(0), (by first | rfl | (simp; done) | (simp [*]; done)), H', ⟨Nat.le_refl _⟩, by repeat (first | exact Drawn0.refl _ | apply Drawn0.step)⟩
    case round =>
     clear H'
     try clear c1
     try clear p2
     try clear c3
     try clear c3b0
     try clear c3b1
     try clear c4
     try clear c4b0
     try clear c4b1
     try clear c5
     try clear c5b0
     try clear c5b1
     try clear p6
     try clear q6
     try clear hx6
     try clear qi6
     try clear c7
     try clear p2
     try clear p6
     try clear q6
     obtain ⟨x18_2, rfl, HA, HK2, ⟨m2, rfl⟩⟩ := hrel
     cases gk with
     | zero => exact absurd HA.out (by simp [image_MayName.l0])
     | succ k2 =>
      have H := HA.out
      clear HA
      simp only [image_MayName.l0] at H
      by_cases c8 : x18_2 < (a0.size : Int)
      ·rw [if_pos c8] at H
       have c8b0 : decide (x18_2 < (a0.size : Int)) = true := decide_eq_true c8
       clear c8
       by_cases c9 : 0 ≤ x18_2
       ·rw [if_pos c9] at H
        have c9b0 : decide (0 ≤ x18_2) = true := decide_eq_true c9
        clear c9
        by_cases c10 : x18_2 < (a0.size : Int)
        ·rw [if_pos c10] at H
         have c10b0 : decide (x18_2 < (a0.size : Int)) = true := decide_eq_true c10
         clear c10
         replace H := Option.bind_eq_some_iff.mp H
         obtain ⟨t119, A120, H⟩ := H
         replace H : (if t119 = true then (image_MayName.l0 k2 a0 (a0.size : Int) (wrap64 (x18_2 + 1))) else (some false)) = some r := H
         have A12 := Aside0.mk A120
         clear A120
         by_cases c13 : t119 = true
         ·subst c13
          have H1 := H; rw [if_pos rfl] at H1
          clear H
          have H := H1
          clear H1
          have H' := Aside0.mk H
          clear H
          have p11 : 0 ≤ (x18_2 : Int) := of_decide_eq_true (by first | (with_reducible assumption) | assumption)
          have q11 : x18_2 < (a0.size : Int) := of_decide_eq_true (by first | (with_reducible assumption) | assumption)
          have hx11 := bt_at a0 x18_2
          replace p11 := eq_true p11
          replace q11 := eq_true q11
          go_wp2_with (first | ((with_reducible refine gate_callee (f := 60) rfl ?_); refine gl_ (some 24) rfl rfl Tryz.func60 (by kernel_rfl) rfl #[.int .u8 (bt a0 x18_2)] rfl ?_; (with_reducible refine (image_may.calls (bt a0 x18_2) true _ A12.out).mono ?_); rintro e w' ⟨rfl, ⟨nd, rfl⟩⟩; refine ⟨_, rfl, ?_⟩))
          go_roundg k2
          case measure => have := HJ1.out; have := HK2.out; omega
          case rel => exact ⟨(wrap64 (x18_2 + 1)), (by first | rfl | (simp; done) | (simp [*]; done)), H', ⟨by have := HJ1.out; have := HK2.out; omega⟩, by repeat (first | exact Drawn0.refl _ | apply Drawn0.step)⟩
         ·replace c13 := Bool.eq_false_iff.mpr c13
          subst c13
          have H1 : (some false) = some r := by rw [if_neg (show ¬ (false = true) by decide)] at H; exact H
          clear H
          have H := H1
          clear H1
          obtain rfl := Option.some.inj H
          have p11 : 0 ≤ (x18_2 : Int) := of_decide_eq_true (by first | (with_reducible assumption) | assumption)
          have q11 : x18_2 < (a0.size : Int) := of_decide_eq_true (by first | (with_reducible assumption) | assumption)
          have hx11 := bt_at a0 x18_2
          replace p11 := eq_true p11
          replace q11 := eq_true q11
          go_wp2_with (first | ((with_reducible refine gate_callee (f := 60) rfl ?_); refine gl_ (some 24) rfl rfl Tryz.func60 (by kernel_rfl) rfl #[.int .u8 (bt a0 x18_2)] rfl ?_; (with_reducible refine (image_may.calls (bt a0 x18_2) false _ A12.out).mono ?_); rintro e w' ⟨rfl, ⟨nd, rfl⟩⟩; refine ⟨_, rfl, ?_⟩))
          go_ret
          exact ⟨by first | rfl | (simp; done) | (simp [*]; done), by repeat (first | exact Drawn0.refl _ | apply Drawn0.step)⟩
        ·rw [if_neg c10] at H
         exact absurd H (by simp)
       ·rw [if_neg c9] at H
        exact absurd H (by simp)
      ·rw [if_neg c8] at H
       have c8b0 : decide (x18_2 < (a0.size : Int)) = false := decide_eq_false c8
       clear c8
       obtain rfl := Option.some.inj H
       go_wp2
       go_ret
       exact ⟨by first | rfl | (simp; done) | (simp [*]; done), by repeat (first | exact Drawn0.refl _ | apply Drawn0.step)⟩
def off_May.f (a0 : Int) : Option (Bool) := if a0 ≥ 0 then (some (decide (a0 ≤ 4611686018427387904))) else (some false)
set_option maxHeartbeats 8000000 in
set_option maxRecDepth 100000 in
theorem off_May.calls (a0 : Int) (r : Bool) (w : World) (h : off_May.f a0 = some r) :
    Calls Tryz.prog 74 #[.int .i64 a0] w fun e w' => e = .returned (.bool r) ∧ Drawn0 w w' := by
  have H : (if a0 ≥ 0 then (some (decide (a0 ≤ 4611686018427387904))) else (some false)) = some r := h
  clear h
  by_cases c2 : a0 ≥ 0
  · rw [if_pos c2] at H
    have c2b0 : decide (0 ≤ a0) = true := decide_eq_true c2
    clear c2
    obtain rfl := Option.some.inj H
    go_enter Tryz.func74, Tryz.ntmps74
    go_wp2
    go_ret
    exact ⟨by first | rfl | (simp; done) | (simp [*]; done), by repeat (first | exact Drawn0.refl _ | apply Drawn0.step)⟩
  · rw [if_neg c2] at H
    have c2b0 : decide (0 ≤ a0) = false := decide_eq_false c2
    clear c2
    obtain rfl := Option.some.inj H
    go_enter Tryz.func74, Tryz.ntmps74
    go_wp2
    go_ret
    exact ⟨by first | rfl | (simp; done) | (simp [*]; done), by repeat (first | exact Drawn0.refl _ | apply Drawn0.step)⟩
end Go.Proofs.YtbmhfnncagncmaaGreatDoor.P
