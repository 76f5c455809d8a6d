import Derived.Test.YtbmhfnncagncmaaGreatDoorPx0
namespace Go.Proofs.YtbmhfnncagncmaaGreatDoor.P
open Go.RowKit Go.Proofs.YtbmhfnncagncmaaGreatDoorW.PrintWords Go.Proofs.YtbmhfnncagncmaaGreatDoorW.PrintLast Go.Proofs.YtbmhfnncagncmaaGreatDoorW.PrintMore
attribute [local go_sem] max2_int min2_int max_two min_two max_three min_three max_four min_four
set_option linter.unusedVariables false
set_option linter.unusedSimpArgs false
mutual
def salvorref6_Only.l0 : Nat → List (S68) → List ByteArray → Int → Option (Bool)
 | 0, _, _, _ => none
 | k + 1, x0, x1, x5 => if x5 < (x0.length : Int) then (salvorref6_Only.l1 k x0 x1 x5 false 0) else (some true)
def salvorref6_Only.l1 : Nat → List (S68) → List ByteArray → Int → Bool → Int → Option (Bool)
 | 0, _, _, _, _, _ => none
 | k + 1, x0, x1, x5, x6, x7 => if x7 < (x1.length : Int) then (if x6 = true then (salvorref6_Only.l1 k x0 x1 x5 true (wrap64 (x7 + 1))) else (if 0 ≤ x7 then (if 0 ≤ x5 then (if x5 < (x0.length : Int) then (salvorref6_Only.l1 k x0 x1 x5 ((rdOf ByteArray.empty x1 x7).toList == ((rd_T68 x0 x5).f0).toList) (wrap64 (x7 + 1))) else (none)) else (none)) else (none))) else (if x6 = true then (salvorref6_Only.l0 k x0 x1 (wrap64 (x5 + 1))) else (some false))
end
def salvorref6_Only.f (k : Nat) (l0 : List (S68)) (l1 : List ByteArray) : Option (Bool) := salvorref6_Only.l0 k l0 l1 0
theorem salvorref6_Only.mono_l : ∀ k, (∀ y0 y1 y2, LeO (salvorref6_Only.l0 k y0 y1 y2) (salvorref6_Only.l0 (k + 1) y0 y1 y2)) ∧ (∀ y0 y1 y2 y3 y4, LeO (salvorref6_Only.l1 k y0 y1 y2 y3 y4) (salvorref6_Only.l1 (k + 1) y0 y1 y2 y3 y4))
 | 0 => ⟨fun _ _ _ r h => by simp [salvorref6_Only.l0] at h, fun _ _ _ _ _ r h => by simp [salvorref6_Only.l1] at h⟩
 | k + 1 => by
  obtain ⟨ih0, ih1⟩ := salvorref6_Only.mono_l k
  refine ⟨?_, ?_⟩
  ·intro y0 y1 y2
   unfold salvorref6_Only.l0
   repeat' first
   | (with_reducible exact ih0 _ _ _)
   | (with_reducible exact ih1 _ _ _ _ _)
   | (with_reducible exact LeO.refl _)
   | (with_reducible exact LeO.none _)
   | (with_reducible refine LeO.ite ?_ ?_)
   | (with_reducible refine LeO.bind ?_ (fun _ => ?_))
   | refine LeO.bind ?_ (fun _ => ?_)
  ·intro y0 y1 y2 y3 y4
   unfold salvorref6_Only.l1
   repeat' first
   | (with_reducible exact ih0 _ _ _)
   | (with_reducible exact ih1 _ _ _ _ _)
   | (with_reducible exact LeO.refl _)
   | (with_reducible exact LeO.none _)
   | (with_reducible refine LeO.ite ?_ ?_)
   | (with_reducible refine LeO.bind ?_ (fun _ => ?_))
   | refine LeO.bind ?_ (fun _ => ?_)
theorem salvorref6_Only.mono : ∀ a0 a1 k, LeO (salvorref6_Only.f k a0 a1) (salvorref6_Only.f (k + 1) a0 a1) := by
 intro a0 a1 k
 obtain ⟨ih0, ih1⟩ := salvorref6_Only.mono_l k
 unfold salvorref6_Only.f
 repeat' first
   | (with_reducible exact ih0 _ _ _)
   | (with_reducible exact ih1 _ _ _ _ _)
   | (with_reducible exact LeO.refl _)
   | (with_reducible exact LeO.none _)
   | (with_reducible refine LeO.ite ?_ ?_)
   | (with_reducible refine LeO.bind ?_ (fun _ => ?_))
   | refine LeO.bind ?_ (fun _ => ?_)
set_option maxHeartbeats 8000000 in
set_option maxRecDepth 100000 in
theorem salvorref6_Only.calls (k : Nat) (A0 : Option Addr) (c0 : Nat) (l0 : List (S68)) (A1 : Option Addr) (c1 : Nat) (l1 : List ByteArray) (r : Bool) (w : World) (hr0 : Kd.C k68 w A0 l0.length l0) (hc0 : l0.length ≤ c0) (hr1 : Kd.C Kd.string w A1 l1.length l1) (hc1 : l1.length ≤ c1) (h : salvorref6_Only.f k l0 l1 = some r) :
  Calls Tryz.prog 19 #[.slice A0 l0.length c0, .slice A1 l1.length c1] w fun e w' => e = .returned (.bool r) ∧ Drawn0 w w' := by
 have HR0 := Aside0.mk hr0
 have HC0 := Aside0.mk hc0
 clear hr0 hc0
 have HR1 := Aside0.mk hr1
 have HC1 := Aside0.mk hc1
 clear hr1 hc1
 have H : (salvorref6_Only.l0 k l0 l1 0) = some r := h
 clear h
 have H' := Aside0.mk H
 clear H
 go_enter Tryz.func19, Tryz.ntmps19
 go_wp2
 repeat (go_quiet (fail); try go_wp2)
 go_loopg [5] k (fun kq v5 w' => ∃ (x5_1 : Int), v5 = .int .i64 x5_1 ∧ Aside0 (salvorref6_Only.l0 kq l0 l1 x5_1 = some r) ∧ Aside0 (kq ≤ k) ∧ Drawn0 w w')
 case atStart => exact ⟨(0), (by first | rfl | (simp; done) | (simp [*]; done)), H', ⟨Nat.le_refl _⟩, by repeat (first | exact Drawn0.refl _ | apply Drawn0.step)⟩
 case round =>
  clear H'
  try clear c1
  try clear p2
  obtain ⟨x5_1, rfl, HA, HK1, ⟨m1, rfl⟩⟩ := hrel
  cases gk with
  | zero => exact absurd HA.out (by simp [salvorref6_Only.l0])
  | succ k1 =>
   have H := HA.out
   clear HA
   simp only [salvorref6_Only.l0] at H
   by_cases c3 : x5_1 < (l0.length : Int)
   ·rw [if_pos c3] at H
    have c3b0 : decide (x5_1 < (l0.length : Int)) = true := decide_eq_true c3
    clear c3
    have H' := Aside0.mk H
    clear H
    go_wp2
    repeat (go_quiet (fail); try go_wp2)
    go_loopg [6, 7] k1 (fun kq v6 v7 w' => ∃ (x6_2 : Bool) (x7_2 : Int), v6 = .bool x6_2 ∧ v7 = .int .i64 x7_2 ∧ Aside0 (salvorref6_Only.l1 kq l0 l1 x5_1 x6_2 x7_2 = some r) ∧ Aside0 (kq ≤ k1) ∧ Drawn0 w w')
    case atStart => exact ⟨(false), (0), (by first | rfl | (simp; done) | (simp [*]; done)), (by first | rfl | (simp; done) | (simp [*]; done)), H', ⟨Nat.le_refl _⟩, by repeat (first | exact Drawn0.refl _ | apply Drawn0.step)⟩
    case round =>
     clear H'
     try clear c1
     try clear p2
     try clear c3
     try clear c3b0
     try clear p2
     obtain ⟨x6_2, x7_2, rfl, rfl, HA, HK2, ⟨m2, rfl⟩⟩ := hrel
     cases gk with
     | zero => exact absurd HA.out (by simp [salvorref6_Only.l1])
     | succ k2 =>
      have H := HA.out
      clear HA
      simp only [salvorref6_Only.l1] at H
      by_cases c4 : x7_2 < (l1.length : Int)
      ·rw [if_pos c4] at H
       have c4b0 : decide (x7_2 < (l1.length : Int)) = true := decide_eq_true c4
       clear c4
       by_cases c5 : x6_2 = true
       ·subst c5
        have H1 := H; rw [if_pos rfl] at H1
        clear H
        have H := H1
        clear H1
        have H' := Aside0.mk H
        clear H
        go_wp2
        repeat (go_quiet (fail); try go_wp2)
        go_roundg k2
        case measure => have := HK1.out; have := HK2.out; omega
        case rel => exact ⟨(true), (wrap64 (x7_2 + 1)), (by first | rfl | (simp; done) | (simp [*]; done)), (by first | rfl | (simp; done) | (simp [*]; done)), H', ⟨by have := HK1.out; have := HK2.out; omega⟩, by repeat (first | exact Drawn0.refl _ | apply Drawn0.step)⟩
       ·replace c5 := Bool.eq_false_iff.mpr c5
        subst c5
        have H1 : (if 0 ≤ x7_2 then (if 0 ≤ x5_1 then (if x5_1 < (l0.length : Int) then (salvorref6_Only.l1 k2 l0 l1 x5_1 ((rdOf ByteArray.empty l1 x7_2).toList == ((rd_T68 l0 x5_1).f0).toList) (wrap64 (x7_2 + 1))) else (none)) else (none)) else (none)) = some r := by rw [if_neg (show ¬ (false = true) by decide)] at H; exact H
        clear H
        have H := H1
        clear H1
        by_cases c6 : 0 ≤ x7_2
        ·rw [if_pos c6] at H
         have c6b0 : decide (0 ≤ x7_2) = true := decide_eq_true c6
         clear c6
         by_cases c7 : 0 ≤ x5_1
         ·rw [if_pos c7] at H
          have c7b0 : decide (0 ≤ x5_1) = true := decide_eq_true c7
          clear c7
          by_cases c8 : x5_1 < (l0.length : Int)
          ·rw [if_pos c8] at H
           have c8b0 : decide (x5_1 < (l0.length : Int)) = true := decide_eq_true c8
           clear c8
           have H' := Aside0.mk H
           clear H
           have p212 : 0 ≤ (x7_2 : Int) := of_decide_eq_true (by first | (with_reducible assumption) | assumption)
           have q212 : x7_2 < (l1.length : Int) := of_decide_eq_true (by first | (with_reducible assumption) | assumption)
           obtain ⟨ad212, e212, hx212_0⟩ := Kd.at_string HR1.out x7_2 p212 q212
           cases e212
           replace p212 := eq_true p212
           replace q212 := eq_true q212
           have p213 : 0 ≤ (x5_1 : Int) := of_decide_eq_true (by first | (with_reducible assumption) | assumption)
           have q213 : x5_1 < (l0.length : Int) := of_decide_eq_true (by first | (with_reducible assumption) | assumption)
           obtain ⟨ad213, e213, hx213_0, hx213_1⟩ := at_T68 HR0.out x5_1 p213 q213
           cases e213
           replace p213 := eq_true p213
           replace q213 := eq_true q213
           go_wp2
           repeat (go_quiet (fail); try go_wp2)
           go_roundg k2
           case measure => have := HK1.out; have := HK2.out; omega
           case rel => exact ⟨(((rdOf ByteArray.empty l1 x7_2).toList == ((rd_T68 l0 x5_1).f0).toList)), (wrap64 (x7_2 + 1)), (by first | rfl | (simp; done) | (simp [*]; done)), (by first | rfl | (simp; done) | (simp [*]; done)), H', ⟨by have := HK1.out; have := HK2.out; omega⟩, by repeat (first | exact Drawn0.refl _ | apply Drawn0.step)⟩
          ·rw [if_neg c8] at H
           exact absurd H (by simp)
         ·rw [if_neg c7] at H
          exact absurd H (by simp)
        ·rw [if_neg c6] at H
         exact absurd H (by simp)
      ·rw [if_neg c4] at H
       have c4b0 : decide (x7_2 < (l1.length : Int)) = false := decide_eq_false c4
       clear c4
       by_cases c9 : x6_2 = true
       ·subst c9
        have H1 := H; rw [if_pos rfl] at H1
        clear H
        have H := H1
        clear H1
        have H' := Aside0.mk H
        clear H
        go_wp2
        repeat (go_quiet (fail); try go_wp2)
        go_roundg k2
        case measure => have := HK1.out; have := HK2.out; omega
        case rel => exact ⟨(wrap64 (x5_1 + 1)), (by first | rfl | (simp; done) | (simp [*]; done)), H', ⟨by have := HK1.out; have := HK2.out; omega⟩, by repeat (first | exact Drawn0.refl _ | apply Drawn0.step)⟩
       ·replace c9 := Bool.eq_false_iff.mpr c9
        subst c9
        have H1 : (some false) = some r := by rw [if_neg (show ¬ (false = true) by decide)] at H; exact H
        clear H
        have H := H1
        clear H1
        obtain rfl := Option.some.inj H
        go_wp2
        repeat (go_quiet (fail); try go_wp2)
        go_ret
        exact ⟨by first | rfl | (simp; done) | (simp [*]; done), by repeat (first | exact Drawn0.refl _ | apply Drawn0.step)⟩
   ·rw [if_neg c3] at H
    have c3b0 : decide (x5_1 < (l0.length : Int)) = false := decide_eq_false c3
    clear c3
    obtain rfl := Option.some.inj H
    go_wp2
    repeat (go_quiet (fail); try go_wp2)
    go_ret
    exact ⟨by first | rfl | (simp; done) | (simp [*]; done), by repeat (first | exact Drawn0.refl _ | apply Drawn0.step)⟩
end Go.Proofs.YtbmhfnncagncmaaGreatDoor.P
