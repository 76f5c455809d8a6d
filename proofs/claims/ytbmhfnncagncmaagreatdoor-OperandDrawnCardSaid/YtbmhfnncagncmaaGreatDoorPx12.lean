import Derived.Test.YtbmhfnncagncmaaGreatDoorPx7
import Derived.Test.YtbmhfnncagncmaaGreatDoorPx8
import Derived.Test.YtbmhfnncagncmaaGreatDoorPx10
import Derived.Test.YtbmhfnncagncmaaGreatDoorPx11
namespace Go.Proofs.YtbmhfnncagncmaaGreatDoor.P
open Go.RowKit Go.Proofs.YtbmhfnncagncmaaGreatDoorW.PrintWords Go.Proofs.YtbmhfnncagncmaaGreatDoorW.PrintLast Go.Proofs.YtbmhfnncagncmaaGreatDoorW.PrintMore
attribute [local go_sem] max2_int min2_int max_two min_two max_three min_three max_four min_four
set_option linter.unusedVariables false
set_option linter.unusedSimpArgs false
mutual
def num_part.j1 : Nat → ByteArray → Int → Option (Int × Bool)
 | 0, _, _ => none
 | k + 1, x0, x4 => if 0 ≤ x4 then (if x4 ≤ (x0.size : Int) then ((num_digits.f (x0.extract 0 (x4 : Int).toNat) 10 19).bind fun bt130 => ((num_times.f (x0.extract (x4 : Int).toNat x0.size)).bind fun bt132 => (if bt130.2 = true then (if bt132.2 = true then ((off_Mul.f k (([bt130.1, bt132.1] : List Int))).bind fun bt137 => (some (bt137.1, bt137.2))) else (some (0, false))) else (some (0, false))))) else (none)) else (none)
def num_part.l0 : Nat → ByteArray → Int → Option (Int × Bool)
 | 0, _, _ => none
 | k + 1, x0, x4 => if x4 < (x0.size : Int) then (if 0 ≤ x4 then (if (bt x0 x4) ≥ 48 then (if (bt x0 x4) ≤ 57 then (num_part.l0 k x0 (wrap64 (x4 + 1))) else (num_part.j1 k x0 x4)) else (num_part.j1 k x0 x4)) else (none)) else (num_part.j1 k x0 x4)
end
def num_part.f (k : Nat) (a0 : ByteArray) : Option (Int × Bool) := num_part.l0 k a0 0
theorem num_part.mono_l : ∀ k, (∀ y0 y1, LeO (num_part.j1 k y0 y1) (num_part.j1 (k + 1) y0 y1)) ∧ (∀ y0 y1, LeO (num_part.l0 k y0 y1) (num_part.l0 (k + 1) y0 y1))
 | 0 => ⟨fun _ _ r h => by simp [num_part.j1] at h, fun _ _ r h => by simp [num_part.l0] at h⟩
 | k + 1 => by
  obtain ⟨ih0, ih1⟩ := num_part.mono_l k
  refine ⟨?_, ?_⟩
  ·intro y0 y1
   unfold num_part.j1
   repeat' first
   | (with_reducible exact ih0 _ _)
   | (with_reducible exact ih1 _ _)
   | (with_reducible exact off_Mul.mono _ _)
   | (with_reducible exact LeO.refl _)
   | (with_reducible exact LeO.none _)
   | (with_reducible refine LeO.ite ?_ ?_)
   | (with_reducible refine LeO.bind ?_ (fun _ => ?_))
   | refine LeO.bind ?_ (fun _ => ?_)
  ·intro y0 y1
   unfold num_part.l0
   repeat' first
   | (with_reducible exact ih0 _ _)
   | (with_reducible exact ih1 _ _)
   | (with_reducible exact off_Mul.mono _ _)
   | (with_reducible exact LeO.refl _)
   | (with_reducible exact LeO.none _)
   | (with_reducible refine LeO.ite ?_ ?_)
   | (with_reducible refine LeO.bind ?_ (fun _ => ?_))
   | refine LeO.bind ?_ (fun _ => ?_)
theorem num_part.mono : ∀ a0 k, LeO (num_part.f k a0) (num_part.f (k + 1) a0) := by
 intro a0 k
 obtain ⟨ih0, ih1⟩ := num_part.mono_l k
 unfold num_part.f
 repeat' first
   | (with_reducible exact ih0 _ _)
   | (with_reducible exact ih1 _ _)
   | (with_reducible exact off_Mul.mono _ _)
   | (with_reducible exact LeO.refl _)
   | (with_reducible exact LeO.none _)
   | (with_reducible refine LeO.ite ?_ ?_)
   | (with_reducible refine LeO.bind ?_ (fun _ => ?_))
   | refine LeO.bind ?_ (fun _ => ?_)
set_option maxHeartbeats 8000000 in
set_option maxRecDepth 100000 in
theorem num_part.calls (k : Nat) (a0 : ByteArray) (r1 : Int) (r2 : Bool) (w : World) (h : num_part.f k a0 = some (r1, r2)) (htab : TabAt w) :
  Calls Tryz.prog 73 #[.string a0] w fun e w' => e = .returned (.tuple #[.int .i64 r1, .bool r2]) ∧ Below w.heap.size w w' := by
 have HTAB := Aside0.mk htab
 clear htab
 have HB := Aside0.mk (Below.refl w.heap.size w)
 have H : (num_part.l0 k a0 0) = some (r1, r2) := h
 clear h
 have HC2 := Aside0.mk H
 clear H
 go_enter Tryz.func73, Tryz.ntmps73
 go_upto_block 0 with (fail)
 go_cut [4] (fun v4 wc => ∃ (kq : Nat) (x4_1 : Int), v4 = .int .i64 x4_1 ∧ Aside0 (num_part.j1 kq a0 x4_1 = some (r1, r2)) ∧ Aside0 (kq ≤ k) ∧ Aside0 (Below w.heap.size w wc))
 case first =>
  have H := HC2.out
  clear HC2
  have H' := Aside0.mk H
  clear H
  go_wp2
  go_loopg [4] k (fun kq v4 w' => ∃ (x4_1 : Int), v4 = .int .i64 x4_1 ∧ Aside0 (num_part.l0 kq a0 x4_1 = some (r1, r2)) ∧ Aside0 (kq ≤ k) ∧ Aside0 (Below w.heap.size w w'))
  case atStart => exact ⟨(0), (by first | rfl | (simp; done) | (simp [*]; done)), H', ⟨Nat.le_refl _⟩, ⟨bh_ HB⟩⟩
  case round =>
   clear H'
   try clear p2
   obtain ⟨x4_1, rfl, HA, HK1, HB⟩ := hrel
   cases gk with
   | zero => exact absurd HA.out (by simp [num_part.l0])
   | succ k1 =>
    have H := HA.out
    clear HA
    simp only [num_part.l0] at H
    by_cases c3 : x4_1 < (a0.size : Int)
    ·rw [if_pos c3] at H
     have c3b0 : decide (x4_1 < (a0.size : Int)) = true := decide_eq_true c3
     clear c3
     (first | rw [c3b0] | (simp only [i64_w, i32_w]; rw [c3b0]) | skip)
     by_cases c4 : 0 ≤ x4_1
     ·rw [if_pos c4] at H
      have c4b0 : decide (0 ≤ x4_1) = true := decide_eq_true c4
      clear c4
      by_cases c6 : (bt a0 x4_1) ≥ 48
      ·rw [if_pos c6] at H
       have c6b0 : decide (48 ≤ (bt a0 x4_1)) = true := decide_eq_true c6
       clear c6
       by_cases c8 : (bt a0 x4_1) ≤ 57
       ·rw [if_pos c8] at H
        have c8b0 : decide ((bt a0 x4_1) ≤ 57) = true := decide_eq_true c8
        clear c8
        have H' := Aside0.mk H
        clear H
        have p5 : 0 ≤ (x4_1 : Int) := of_decide_eq_true (by first | (with_reducible assumption) | assumption)
        have q5 : x4_1 < (a0.size : Int) := of_decide_eq_true (by first | (with_reducible assumption) | assumption)
        have hx5 := bt_at a0 x4_1
        replace p5 := eq_true p5
        replace q5 := eq_true q5
        have p7 : 0 ≤ (x4_1 : Int) := of_decide_eq_true (by first | (with_reducible assumption) | assumption)
        have q7 : x4_1 < (a0.size : Int) := of_decide_eq_true (by first | (with_reducible assumption) | assumption)
        have hx7 := bt_at a0 x4_1
        replace p7 := eq_true p7
        replace q7 := eq_true q7
        go_wp2
        go_roundg k1
        case measure => have := HK1.out; omega
        case rel => exact ⟨(wrap64 (x4_1 + 1)), (by first | rfl | (simp; done) | (simp [*]; done)), H', ⟨by have := HK1.out; omega⟩, ⟨bh_ HB⟩⟩
       ·rw [if_neg c8] at H
        have c8b0 : decide ((bt a0 x4_1) ≤ 57) = false := decide_eq_false c8
        clear c8
        have H' := Aside0.mk H
        clear H
        have p5 : 0 ≤ (x4_1 : Int) := of_decide_eq_true (by first | (with_reducible assumption) | assumption)
        have q5 : x4_1 < (a0.size : Int) := of_decide_eq_true (by first | (with_reducible assumption) | assumption)
        have hx5 := bt_at a0 x4_1
        replace p5 := eq_true p5
        replace q5 := eq_true q5
        have p7 : 0 ≤ (x4_1 : Int) := of_decide_eq_true (by first | (with_reducible assumption) | assumption)
        have q7 : x4_1 < (a0.size : Int) := of_decide_eq_true (by first | (with_reducible assumption) | assumption)
        have hx7 := bt_at a0 x4_1
        replace p7 := eq_true p7
        replace q7 := eq_true q7
        go_wp2
        go_meet
        case rel => exact ⟨_, (x4_1), (by first | rfl | (simp; done) | (simp [*]; done)), H', ⟨by have := HK1.out; first | omega | exact Nat.le_refl _⟩, ⟨bh_ HB⟩⟩
      ·rw [if_neg c6] at H
       have c6b0 : decide (48 ≤ (bt a0 x4_1)) = false := decide_eq_false c6
       clear c6
       have H' := Aside0.mk H
       clear H
       have p5 : 0 ≤ (x4_1 : Int) := of_decide_eq_true (by first | (with_reducible assumption) | assumption)
       have q5 : x4_1 < (a0.size : Int) := of_decide_eq_true (by first | (with_reducible assumption) | assumption)
       have hx5 := bt_at a0 x4_1
       replace p5 := eq_true p5
       replace q5 := eq_true q5
       go_wp2
       go_meet
       case rel => exact ⟨_, (x4_1), (by first | rfl | (simp; done) | (simp [*]; done)), H', ⟨by have := HK1.out; first | omega | exact Nat.le_refl _⟩, ⟨bh_ HB⟩⟩
     ·rw [if_neg c4] at H
      exact absurd H (by simp)
    ·rw [if_neg c3] at H
     have c3b0 : decide (x4_1 < (a0.size : Int)) = false := decide_eq_false c3
     clear c3
     (first | rw [c3b0] | (simp only [i64_w, i32_w]; rw [c3b0]) | skip)
     have H' := Aside0.mk H
     clear H
     go_wp2
     go_meet
     case rel => exact ⟨_, (x4_1), (by first | rfl | (simp; done) | (simp [*]; done)), H', ⟨by have := HK1.out; first | omega | exact Nat.le_refl _⟩, ⟨bh_ HB⟩⟩
 case rest =>
  clear HC2
  try clear p2
  try clear c3
  try clear c3b0
  try clear c4
  try clear c4b0
  try clear p5
  try clear q5
  try clear hx5
  try clear c6
  try clear c6b0
  try clear p6
  try clear c7
  try clear p7
  try clear q7
  try clear hx7
  try clear c8
  try clear c8b0
  try clear p2
  try clear p5
  try clear p7
  try clear q5
  try clear q7
  obtain ⟨kq, x4_1, rfl, HA, HJ1, HB⟩ := hcut
  cases kq with
  | zero => exact absurd HA.out (by simp [num_part.j1])
  | succ kj1 =>
   have H := HA.out
   clear HA
   simp only [num_part.j1] at H
   by_cases c9 : 0 ≤ x4_1
   ·rw [if_pos c9] at H
    have c9b0 := eq_true c9
    have c9b1 : decide (0 ≤ x4_1) = true := decide_eq_true c9
    clear c9
    by_cases c10 : x4_1 ≤ (a0.size : Int)
    ·rw [if_pos c10] at H
     have c10b0 := eq_true c10
     have c10b1 : decide (x4_1 ≤ (a0.size : Int)) = true := decide_eq_true c10
     clear c10
     replace H := Option.bind_eq_some_iff.mp H
     obtain ⟨⟨t130, t131⟩, A110, H⟩ := H
     replace H : ((num_times.f (a0.extract (x4_1 : Int).toNat a0.size)).bind fun bt132 => (if t131 = true then (if bt132.2 = true then ((off_Mul.f kj1 (([t130, bt132.1] : List Int))).bind fun bt137 => (some (bt137.1, bt137.2))) else (some (0, false))) else (some (0, false)))) = some (r1, r2) := H
     have A11 := Aside0.mk A110
     clear A110
     have c12b0 := eq_true (of_decide_eq_true (by first | (with_reducible assumption) | assumption) : 0 ≤ x4_1)
     have c13b0 := eq_true (of_decide_eq_true (by first | (with_reducible assumption) | assumption) : x4_1 ≤ (a0.size : Int))
     replace H := Option.bind_eq_some_iff.mp H
     obtain ⟨⟨t132, t133⟩, A140, H⟩ := H
     replace H : (if t131 = true then (if t133 = true then ((off_Mul.f kj1 (([t130, t132] : List Int))).bind fun bt137 => (some (bt137.1, bt137.2))) else (some (0, false))) else (some (0, false))) = some (r1, r2) := H
     have A14 := Aside0.mk A140
     clear A140
     by_cases c15 : t131 = true
     ·subst c15
      have H1 := H; rw [if_pos rfl] at H1
      clear H
      have H := H1
      clear H1
      by_cases c16 : t133 = true
      ·subst c16
       have H1 := H; rw [if_pos rfl] at H1
       clear H
       have H := H1
       clear H1
       obtain ⟨y134, hy134⟩ : ∃ y_ : List Int, y_ = (([t130, t132] : List Int)) := ⟨_, rfl⟩
       replace H : ((off_Mul.f kj1 y134).bind fun bt137 => (some (bt137.1, bt137.2))) = some (r1, r2) := by first | (rw [hy134]; with_reducible exact H) | (have H2_ := (Option.bind_some _ _).symm.trans H; rw [hy134]; with_reducible exact H2_) | (have H2_ := (Option.bind_some _ _).symm.trans H; with_reducible exact H2_) | with_reducible exact H | (rw [hy134]; exact H) | exact H
       have Ny134 := Aside0.mk hy134
       clear hy134
       replace H := Option.bind_eq_some_iff.mp H
       obtain ⟨⟨t137, t138⟩, A170, H⟩ := H
       replace H : (some (t137, t138)) = some (r1, r2) := H
       have A17 := Aside0.mk A170
       clear A170
       simp only [Option.some.injEq, Prod.mk.injEq] at H
       obtain ⟨rfl, rfl⟩ := H
       go_wp2_with (first | ((with_reducible refine gate_callee (f := 80) rfl ?_); refine gl_ (some 31) rfl rfl Tryz.func80 (by kernel_rfl) rfl #[.string (a0.extract 0 (x4_1 : Int).toNat), .int .i64 10, .int .i64 19] rfl ?_; (with_reducible refine (num_digits.calls (a0.extract 0 (x4_1 : Int).toNat) 10 19 t130 true _ A11.out ?tb0_).mono ?_); (case tb0_ => exact tb_ HTAB HB); rintro e w18 ⟨rfl, hb⟩; refine ⟨_, rfl, ?_⟩; replace HB := bs_ HB hb; (try clear hb)) | ((with_reducible refine gate_callee (f := 81) rfl ?_); refine gl_ (some 38) rfl rfl Tryz.func81 (by kernel_rfl) rfl #[.string (a0.extract (x4_1 : Int).toNat a0.size)] rfl ?_; (with_reducible refine (num_times.calls (a0.extract (x4_1 : Int).toNat a0.size) t132 true _ A14.out).mono ?_); rintro e w' ⟨rfl, ⟨nd, rfl⟩⟩; refine ⟨_, rfl, ?_⟩) | ((with_reducible refine gate_dst (N := 49) rfl ?_); refine Kd.R_lit (Kd.int .i64) _ 3 ?hg (N := 49) ?hd (xs := ([t130, t132] : List Int)) (inner := [.int .i64 t130, .int .i64 t132]) (ok := fun _ => True) (okp := fun _ => True) ?hr ?hp (fun _ hk => hk) trivial (Below.refl _ _) (Nat.le_refl _) (by simp) ?_; (case hd => rfl); (case hg => rfl); (case hr => first | (go_simp; done) | (go_simp; rfl)); (case hp => exact (Reps.one (show Kd.M (Kd.int .i64) _ _ _ t130 [.int .i64 t130] from rfl) (Reps.one (show Kd.M (Kd.int .i64) _ _ _ t132 [.int .i64 t132] from rfl) (Reps.none _ _)))); intro v135 w19 ho20 hb hg_ hnew_; clear hg_ hnew_; (first | rw [← Ny134.out] at ho20 | (simp only [Int.reduceToNat] at ho20; rw [← Ny134.out] at ho20)); have HO136 := Aside0.mk (Kd.R_lower ho20 (below_size (bh_ HB))); replace HB := bs_ HB hb; clear hb ho20; obtain ⟨Ao21, co21, eo21⟩ := Kd.R_slice HO136.out; subst eo21) | ((with_reducible refine gate_callee (f := 42) rfl ?_); refine gl_ (some 50) rfl rfl Tryz.func42 (by kernel_rfl) rfl #[.slice Ao21 y134.length co21] rfl ?_; (with_reducible refine (off_Mul.calls kj1 _ _ y134 t137 t138 _ ?side1 ?side2 A17.out).mono ?_); (case side1 => repeat (first | exact (Kd.R_reads' HO136.out).2.2 | (with_reducible refine Kd.C_alloc ?_ _) | (with_reducible refine Kd.C_drewN ?_ _) | (with_reducible refine Kd.C_drew ?_))); (case side2 => exact (Kd.R_reads' HO136.out).2.1); rintro e w' ⟨rfl, ⟨nd, rfl⟩⟩; refine ⟨_, rfl, ?_⟩))
       go_ret2
       exact ⟨by first | rfl | (simp [errW_none, errW_some] <;> rfl) | (simp [*, errW_none, errW_some] <;> rfl), bh_ HB⟩
      ·replace c16 := Bool.eq_false_iff.mpr c16
       subst c16
       have H1 : (some (0, false)) = some (r1, r2) := by rw [if_neg (show ¬ (false = true) by decide)] at H; exact H
       clear H
       have H := H1
       clear H1
       simp only [Option.some.injEq, Prod.mk.injEq] at H
       obtain ⟨rfl, rfl⟩ := H
       go_wp2_with (first | ((with_reducible refine gate_callee (f := 80) rfl ?_); refine gl_ (some 31) rfl rfl Tryz.func80 (by kernel_rfl) rfl #[.string (a0.extract 0 (x4_1 : Int).toNat), .int .i64 10, .int .i64 19] rfl ?_; (with_reducible refine (num_digits.calls (a0.extract 0 (x4_1 : Int).toNat) 10 19 t130 true _ A11.out ?tb2_).mono ?_); (case tb2_ => exact tb_ HTAB HB); rintro e w22 ⟨rfl, hb⟩; refine ⟨_, rfl, ?_⟩; replace HB := bs_ HB hb; (try clear hb)) | ((with_reducible refine gate_callee (f := 81) rfl ?_); refine gl_ (some 38) rfl rfl Tryz.func81 (by kernel_rfl) rfl #[.string (a0.extract (x4_1 : Int).toNat a0.size)] rfl ?_; (with_reducible refine (num_times.calls (a0.extract (x4_1 : Int).toNat a0.size) t132 false _ A14.out).mono ?_); rintro e w' ⟨rfl, ⟨nd, rfl⟩⟩; refine ⟨_, rfl, ?_⟩))
       go_ret2
       exact ⟨by first | rfl | (simp [errW_none, errW_some] <;> rfl) | (simp [*, errW_none, errW_some] <;> rfl), bh_ HB⟩
     ·replace c15 := Bool.eq_false_iff.mpr c15
      subst c15
      have H1 : (some (0, false)) = some (r1, r2) := by rw [if_neg (show ¬ (false = true) by decide)] at H; exact H
      clear H
      have H := H1
      clear H1
      simp only [Option.some.injEq, Prod.mk.injEq] at H
      obtain ⟨rfl, rfl⟩ := H
      go_wp2_with (first | ((with_reducible refine gate_callee (f := 80) rfl ?_); refine gl_ (some 31) rfl rfl Tryz.func80 (by kernel_rfl) rfl #[.string (a0.extract 0 (x4_1 : Int).toNat), .int .i64 10, .int .i64 19] rfl ?_; (with_reducible refine (num_digits.calls (a0.extract 0 (x4_1 : Int).toNat) 10 19 t130 false _ A11.out ?tb4_).mono ?_); (case tb4_ => exact tb_ HTAB HB); rintro e w23 ⟨rfl, hb⟩; refine ⟨_, rfl, ?_⟩; replace HB := bs_ HB hb; (try clear hb)) | ((with_reducible refine gate_callee (f := 81) rfl ?_); refine gl_ (some 38) rfl rfl Tryz.func81 (by kernel_rfl) rfl #[.string (a0.extract (x4_1 : Int).toNat a0.size)] rfl ?_; (with_reducible refine (num_times.calls (a0.extract (x4_1 : Int).toNat a0.size) t132 t133 _ A14.out).mono ?_); rintro e w' ⟨rfl, ⟨nd, rfl⟩⟩; refine ⟨_, rfl, ?_⟩))
      go_ret2
      exact ⟨by first | rfl | (simp [errW_none, errW_some] <;> rfl) | (simp [*, errW_none, errW_some] <;> rfl), bh_ HB⟩
    ·rw [if_neg c10] at H
     exact absurd H (by simp)
   ·rw [if_neg c9] at H
    exact absurd H (by simp)
def num_Get.l0 : Nat → List Int → List ByteArray → Int → Int → Option (Int × Bool)
 | 0, _, _, _, _ => none
 | k + 1, x4, x10, x11, x12 => if x12 < x11 then (if 0 ≤ x12 then (if x12 < (x10.length : Int) then ((num_part.f k (rdOf ByteArray.empty x10 x12)).bind fun bt143 => (if bt143.2 = true then (if x4.length < 17592186044416 then (num_Get.l0 k (x4 ++ [bt143.1]) x10 x11 (wrap64 (x12 + 1))) else (none)) else (some (0, false)))) else (none)) else (none)) else ((off_Mul.f k x4).bind fun bt148 => (some (bt148.1, bt148.2)))
def num_Get.f (k : Nat) (a0 : ByteArray) : Option (Int × Bool) := (strings_Split.f a0 (⟨#[120]⟩ : ByteArray)).bind fun t139 => (num_Get.l0 k ([] : List Int) t139 (t139.length : Int) 0)
theorem num_Get.mono_l : ∀ k, (∀ y0 y1 y2 y3, LeO (num_Get.l0 k y0 y1 y2 y3) (num_Get.l0 (k + 1) y0 y1 y2 y3))
 | 0 => fun _ _ _ _ r h => by simp [num_Get.l0] at h
 | k + 1 => by
  have ih0 := num_Get.mono_l k
  ·intro y0 y1 y2 y3
   unfold num_Get.l0
   repeat' first
   | (with_reducible exact ih0 _ _ _ _)
   | (with_reducible exact num_part.mono _ _)
   | (with_reducible exact off_Mul.mono _ _)
   | (with_reducible exact LeO.refl _)
   | (with_reducible exact LeO.none _)
   | (with_reducible refine LeO.ite ?_ ?_)
   | (with_reducible refine LeO.bind ?_ (fun _ => ?_))
   | refine LeO.bind ?_ (fun _ => ?_)
theorem num_Get.mono : ∀ a0 k, LeO (num_Get.f k a0) (num_Get.f (k + 1) a0) := by
 intro a0 k
 have ih0 := num_Get.mono_l k
 unfold num_Get.f
 repeat' first
   | (with_reducible exact ih0 _ _ _ _)
   | (with_reducible exact num_part.mono _ _)
   | (with_reducible exact off_Mul.mono _ _)
   | (with_reducible exact LeO.refl _)
   | (with_reducible exact LeO.none _)
   | (with_reducible refine LeO.ite ?_ ?_)
   | (with_reducible refine LeO.bind ?_ (fun _ => ?_))
   | refine LeO.bind ?_ (fun _ => ?_)
set_option maxHeartbeats 8000000 in
set_option maxRecDepth 100000 in
theorem num_Get.calls (k : Nat) (a0 : ByteArray) (r1 : Int) (r2 : Bool) (w : World) (h : num_Get.f k a0 = some (r1, r2)) (htab : TabAt w) :
  Calls Tryz.prog 61 #[.string a0] w fun e w' => e = .returned (.tuple #[.int .i64 r1, .bool r2]) ∧ Below w.heap.size w w' := by
 have HTAB := Aside0.mk htab
 clear htab
 have HB := Aside0.mk (Below.refl w.heap.size w)
 have H : ((strings_Split.f a0 (⟨#[120]⟩ : ByteArray)).bind fun t139 => (num_Get.l0 k ([] : List Int) t139 (t139.length : Int) 0)) = some (r1, r2) := h
 clear h
 replace H := Option.bind_eq_some_iff.mp H
 obtain ⟨t139, A20, H⟩ := H
 replace H : (num_Get.l0 k ([] : List Int) t139 (t139.length : Int) 0) = some (r1, r2) := H
 have A2 := Aside0.mk A20
 clear A20
 have H' := Aside0.mk H
 clear H
 go_enter Tryz.func61, Tryz.ntmps61
 go_wp2_with (first | ((with_reducible refine gate_callee (f := 72) rfl ?_); refine gl_ (some 10) rfl rfl Tryz.func72 (by kernel_rfl) rfl #[.string a0, .string (⟨#[120]⟩ : ByteArray)] rfl ?_; (with_reducible refine (strings_Split.calls a0 (⟨#[120]⟩ : ByteArray) t139 _ A2.out ?tb0_).mono ?_); (case tb0_ => exact tb_ HTAB HB); rintro e w3 ⟨v140, rfl, ho0, hb⟩; refine ⟨_, rfl, ?_⟩; have HO141 := Aside0.mk (Kd.R_lower ho0 (below_size (bh_ HB))); replace HB := bs_ HB hb; (try clear hb); (try clear hb2); (try clear hk); (try clear hi); (try clear ho0); obtain ⟨Ao4, co4, eo4⟩ := Kd.R_slice HO141.out; subst eo4))
 go_loopg [4, 12] k (fun kq v4 v12 w' => ∃ (x4_1 : List Int) (x12_1 : Int), v12 = .int .i64 x12_1 ∧ Aside0 (num_Get.l0 kq x4_1 t139 (t139.length : Int) x12_1 = some (r1, r2)) ∧ Aside0 (kq ≤ k) ∧ Aside0 (Kd.R (Kd.int .i64) 3 w' w.heap.size (fun _ => True) v4 x4_1) ∧ Aside0 (Kd.R Kd.string 9 w' w.heap.size (fun _ => True) (.slice Ao4 t139.length co4) t139) ∧ Aside0 (Below w.heap.size w w'))
 case atStart => exact ⟨(([] : List Int)), (0), (by first | rfl | (simp; done) | (simp [*]; done)), H', ⟨Nat.le_refl _⟩, ⟨by first | exact Kd.R_nil _ _ _ _ _ | exact Kd.N_nil _ _ _ _ _ | exact Kd.V_nil _ _ _ _ _ | exact Kd.Q_nil _ _ _ _ _ | exact Kd.S_nil _ _ _ _ _⟩, ⟨by (with_reducible repeat (first | apply Kd.R_alloc | apply Kd.R_drewN | apply Kd.R_drew)); exact HO141.out⟩, ⟨bh_ HB⟩⟩
 case round =>
  clear H'
  try clear p2
  obtain ⟨x4_1, x12_1, rfl, HA, HK1, HO_4, HO_10, HB⟩ := hrel
  cases gk with
  | zero => exact absurd HA.out (by simp [num_Get.l0])
  | succ k1 =>
   have H := HA.out
   clear HA
   simp only [num_Get.l0] at H
   by_cases c5 : x12_1 < (t139.length : Int)
   ·rw [if_pos c5] at H
    have c5b0 : decide (x12_1 < (t139.length : Int)) = true := decide_eq_true c5
    clear c5
    by_cases c6 : 0 ≤ x12_1
    ·rw [if_pos c6] at H
     have c6b0 : decide (0 ≤ x12_1) = true := decide_eq_true c6
     clear c6
     by_cases c7 : x12_1 < (t139.length : Int)
     ·rw [if_pos c7] at H
      have c7b0 : decide (x12_1 < (t139.length : Int)) = true := decide_eq_true c7
      clear c7
      replace H := Option.bind_eq_some_iff.mp H
      obtain ⟨⟨t143, t144⟩, A80, H⟩ := H
      replace H : (if t144 = true then (if x4_1.length < 17592186044416 then (num_Get.l0 k1 (x4_1 ++ [t143]) t139 (t139.length : Int) (wrap64 (x12_1 + 1))) else (none)) else (some (0, false))) = some (r1, r2) := H
      have A8 := Aside0.mk A80
      clear A80
      by_cases c9 : t144 = true
      ·subst c9
       have H1 := H; rw [if_pos rfl] at H1
       clear H
       have H := H1
       clear H1
       by_cases c10 : x4_1.length < 17592186044416
       ·rw [if_pos c10] at H
        have LMc10 := Aside0.mk c10
        clear c10
        obtain ⟨y145, hy145⟩ : ∃ y_ : List Int, y_ = (x4_1 ++ [t143]) := ⟨_, rfl⟩
        replace H : (num_Get.l0 k1 y145 t139 (t139.length : Int) (wrap64 (x12_1 + 1))) = some (r1, r2) := by first | (rw [hy145]; with_reducible exact H) | (have H2_ := (Option.bind_some _ _).symm.trans H; rw [hy145]; with_reducible exact H2_) | (have H2_ := (Option.bind_some _ _).symm.trans H; with_reducible exact H2_) | with_reducible exact H | (rw [hy145]; exact H) | exact H
        have Ny145 := Aside0.mk hy145
        clear hy145
        have H' := Aside0.mk H
        clear H
        have p142 : 0 ≤ (x12_1 : Int) := of_decide_eq_true (by first | (with_reducible assumption) | assumption)
        have q142 : x12_1 < (t139.length : Int) := of_decide_eq_true (by first | (with_reducible assumption) | assumption)
        obtain ⟨ad142, e142, hx142_0⟩ := Kd.at_string (Kd.R_reads' HO_10.out).2.2 x12_1 p142 q142
        cases e142
        replace p142 := eq_true p142
        replace q142 := eq_true q142
        go_wp2_with (first | ((with_reducible refine gate_callee (f := 73) rfl ?_); refine gl_ (some 18) rfl rfl Tryz.func73 (by kernel_rfl) rfl #[.string (rdOf ByteArray.empty t139 x12_1)] rfl ?_; (with_reducible refine (num_part.calls k1 (rdOf ByteArray.empty t139 x12_1) t143 true _ A8.out ?tb2_).mono ?_); (case tb2_ => exact tb_ HTAB HB); rintro e w11 ⟨rfl, hb⟩; refine ⟨_, rfl, ?_⟩; have n0_ := Aside0.mk (Kd.R_below (by (with_reducible repeat (first | apply Kd.R_alloc | apply Kd.R_drewN | apply Kd.R_drew)); exact HO_4.out) hb); have n1_ := Aside0.mk (Kd.R_below (by (with_reducible repeat (first | apply Kd.R_alloc | apply Kd.R_drewN | apply Kd.R_drew)); exact HO_10.out) hb); have n2_ := bs_ HB hb; clear HO_4; clear HO_10; clear HB; have HO_4 := n0_; have HO_10 := n1_; have HB := n2_; clear n0_ n1_ n2_; (try clear hb)) | ((with_reducible refine gate_builtin (b := .append) (xs := #[.tmp 23, .tmp 25]) rfl ?_); at_builtin; refine Kd.R_append (Kd.int .i64) (w0 := w) w.heap.size rfl (.tmp 23) (.tmp 25) 59 3 (.int .i64 0) 8 rfl Tryz.underlying59 info3 rfl (by decide) (by omega) u4 x4_1 t143 [.int .i64 t143] (fun _ => True) (fun _ => False) rfl rfl ?aP (fun _ hk => hk.elim) ?aF ?aO ?aB ?aS ?aL ?_; (case aP => exact rfl); (case aB => exact (bh_ HB)); (case aF => exact (fun _ _ => trivial)); (case aO => exact (by (with_reducible repeat (first | apply Kd.R_alloc | apply Kd.R_drewN | apply Kd.R_drew)); exact HO_4.out)); (case aS => exact (below_size (bh_ HB))); (case aL => have := LMc10.out; omega); intro v146 w12 ho hb hg hat; rw [← Ny145.out] at ho; have n0_ := Aside0.mk (Kd.R_over' (by (with_reducible repeat (first | apply Kd.R_alloc | apply Kd.R_drewN | apply Kd.R_drew)); exact HO_10.out) (Kd.R_typed (by (with_reducible repeat (first | apply Kd.R_alloc | apply Kd.R_drewN | apply Kd.R_drew)); exact HO_4.out)) (by decide) hg); have n1_ := Aside0.mk (hb); have n2_ := Aside0.mk (ho); clear HO_10; clear HB; clear HO_4; have HO_10 := n0_; have HB := n1_; have HO147 := n2_; clear n0_ n1_ n2_; clear ho hb hg hat))
        go_roundg k1
        case measure => have := HK1.out; omega
        case rel => exact ⟨(y145), (wrap64 (x12_1 + 1)), (by first | rfl | (simp; done) | (simp [*]; done)), H', ⟨by have := HK1.out; omega⟩, ⟨by (with_reducible repeat (first | apply Kd.R_alloc | apply Kd.R_drewN | apply Kd.R_drew)); exact HO147.out⟩, ⟨by (with_reducible repeat (first | apply Kd.R_alloc | apply Kd.R_drewN | apply Kd.R_drew)); exact HO_10.out⟩, ⟨bh_ HB⟩⟩
       ·rw [if_neg c10] at H
        exact absurd H (by simp)
      ·replace c9 := Bool.eq_false_iff.mpr c9
       subst c9
       have H1 : (some (0, false)) = some (r1, r2) := by rw [if_neg (show ¬ (false = true) by decide)] at H; exact H
       clear H
       have H := H1
       clear H1
       simp only [Option.some.injEq, Prod.mk.injEq] at H
       obtain ⟨rfl, rfl⟩ := H
       have p142 : 0 ≤ (x12_1 : Int) := of_decide_eq_true (by first | (with_reducible assumption) | assumption)
       have q142 : x12_1 < (t139.length : Int) := of_decide_eq_true (by first | (with_reducible assumption) | assumption)
       obtain ⟨ad142, e142, hx142_0⟩ := Kd.at_string (Kd.R_reads' HO_10.out).2.2 x12_1 p142 q142
       cases e142
       replace p142 := eq_true p142
       replace q142 := eq_true q142
       go_wp2_with (first | ((with_reducible refine gate_callee (f := 73) rfl ?_); refine gl_ (some 18) rfl rfl Tryz.func73 (by kernel_rfl) rfl #[.string (rdOf ByteArray.empty t139 x12_1)] rfl ?_; (with_reducible refine (num_part.calls k1 (rdOf ByteArray.empty t139 x12_1) t143 false _ A8.out ?tb4_).mono ?_); (case tb4_ => exact tb_ HTAB HB); rintro e w13 ⟨rfl, hb⟩; refine ⟨_, rfl, ?_⟩; have n0_ := Aside0.mk (Kd.R_below (by (with_reducible repeat (first | apply Kd.R_alloc | apply Kd.R_drewN | apply Kd.R_drew)); exact HO_4.out) hb); have n1_ := Aside0.mk (Kd.R_below (by (with_reducible repeat (first | apply Kd.R_alloc | apply Kd.R_drewN | apply Kd.R_drew)); exact HO_10.out) hb); have n2_ := bs_ HB hb; clear HO_4; clear HO_10; clear HB; have HO_4 := n0_; have HO_10 := n1_; have HB := n2_; clear n0_ n1_ n2_; (try clear hb)))
       go_ret2
       exact ⟨by first | rfl | (simp [errW_none, errW_some] <;> rfl) | (simp [*, errW_none, errW_some] <;> rfl), bh_ HB⟩
     ·rw [if_neg c7] at H
      exact absurd H (by simp)
    ·rw [if_neg c6] at H
     exact absurd H (by simp)
   ·rw [if_neg c5] at H
    have c5b0 : decide (x12_1 < (t139.length : Int)) = false := decide_eq_false c5
    clear c5
    replace H := Option.bind_eq_some_iff.mp H
    obtain ⟨⟨t148, t149⟩, A140, H⟩ := H
    replace H : (some (t148, t149)) = some (r1, r2) := H
    have A14 := Aside0.mk A140
    clear A140
    simp only [Option.some.injEq, Prod.mk.injEq] at H
    obtain ⟨rfl, rfl⟩ := H
    obtain ⟨Ao15, co15, eo15⟩ := Kd.R_slice HO_4.out
    subst eo15
    go_wp2_with (first | ((with_reducible refine gate_callee (f := 42) rfl ?_); refine gl_ (some 29) rfl rfl Tryz.func42 (by kernel_rfl) rfl #[.slice Ao15 x4_1.length co15] rfl ?_; (with_reducible refine (off_Mul.calls k1 _ _ x4_1 t148 t149 _ ?side1 ?side2 A14.out).mono ?_); (case side1 => repeat (first | exact (Kd.R_reads' HO_4.out).2.2 | (with_reducible refine Kd.C_alloc ?_ _) | (with_reducible refine Kd.C_drewN ?_ _) | (with_reducible refine Kd.C_drew ?_))); (case side2 => exact (Kd.R_reads' HO_4.out).2.1); rintro e w' ⟨rfl, ⟨nd, rfl⟩⟩; refine ⟨_, rfl, ?_⟩))
    go_ret2
    exact ⟨by first | rfl | (simp [errW_none, errW_some] <;> rfl) | (simp [*, errW_none, errW_some] <;> rfl), bh_ HB⟩
def arg_Words.f (a0 : ByteArray) (a1 : Int) : Option (List ByteArray) := (strings_Split.f a0 (strOfNums (([a1] : List Int)))).bind fun t157 => (some t157)
set_option maxHeartbeats 8000000 in
set_option maxRecDepth 100000 in
theorem arg_Words.calls (a0 : ByteArray) (a1 : Int) (r : List ByteArray) (w : World) (h : arg_Words.f a0 a1 = some r) (htab : TabAt w) :
    Calls Tryz.prog 62 #[.string a0, .int .u8 a1] w fun e w' => ∃ v0_ : Value, e = .returned (v0_) ∧ Kd.R Kd.string 9 w' w.heap.size (fun _ => True) v0_ r ∧ Below w.heap.size w w' := by
  have HTAB := Aside0.mk htab
  clear htab
  have HB := Aside0.mk (Below.refl w.heap.size w)
  have H : ((strings_Split.f a0 (strOfNums (([a1] : List Int)))).bind fun t157 => (some t157)) = some r := h
  clear h
  obtain ⟨y154, hy154⟩ : ∃ y_ : List Int, y_ = (([a1] : List Int)) := ⟨_, rfl⟩
  replace H : ((strings_Split.f a0 (strOfNums y154)).bind fun t157 => (some t157)) = some r := by first | (rw [hy154]; with_reducible exact H) | (have H2_ := (Option.bind_some _ _).symm.trans H; rw [hy154]; with_reducible exact H2_) | (have H2_ := (Option.bind_some _ _).symm.trans H; with_reducible exact H2_) | with_reducible exact H | (rw [hy154]; exact H) | exact H
  have Ny154 := Aside0.mk hy154
  clear hy154
  replace H := Option.bind_eq_some_iff.mp H
  obtain ⟨t157, A30, H⟩ := H
  replace H : (some t157) = some r := H
  have A3 := Aside0.mk A30
  clear A30
  obtain rfl := Option.some.inj H
  go_enter Tryz.func62, Tryz.ntmps62
  go_wp2_with (first | ((with_reducible refine gate_dst (N := 7) rfl ?_); refine Kd.R_lit (Kd.int .u8) _ 5 ?hg (N := 7) ?hd (xs := ([a1] : List Int)) (inner := [.int .u8 a1]) (ok := fun _ => True) (okp := fun _ => True) ?hr ?hp (fun _ hk => hk) trivial (Below.refl _ _) (Nat.le_refl _) (by simp) ?_; (case hd => rfl); (case hg => rfl); (case hr => first | (go_simp; done) | (go_simp; rfl)); (case hp => exact (Reps.one (show Kd.M (Kd.int .u8) _ _ _ a1 [.int .u8 a1] from rfl) (Reps.none _ _))); intro v155 w4 ho5 hb hg_ hnew_; clear hg_ hnew_; (first | rw [← Ny154.out] at ho5 | (simp only [Int.reduceToNat] at ho5; rw [← Ny154.out] at ho5)); have HO156 := Aside0.mk (Kd.R_lower ho5 (below_size (bh_ HB))); replace HB := bs_ HB hb; clear hb ho5; have hcv6 := own_string (P := Tryz.prog) Tryz.underlying61 Tryz.underlying5 Tryz.underlying9 (Kd.own_of_R HO156.out)) | ((with_reducible refine gate_callee (f := 72) rfl ?_); refine gl_ (some 9) rfl rfl Tryz.func72 (by kernel_rfl) rfl #[.string a0, .string (strOfNums y154)] rfl ?_; (with_reducible refine (strings_Split.calls a0 (strOfNums y154) t157 _ A3.out ?tb0_).mono ?_); (case tb0_ => exact tb_ HTAB HB); rintro e w7 ⟨v158, rfl, ho0, hb⟩; refine ⟨_, rfl, ?_⟩; have n0_ := Aside0.mk (Kd.R_below (by (with_reducible repeat (first | apply Kd.R_alloc | apply Kd.R_drewN | apply Kd.R_drew)); exact HO156.out) hb); have n1_ := Aside0.mk (Kd.R_lower ho0 (below_size (bh_ HB))); have n2_ := bs_ HB hb; clear HO156; clear HB; have HO156 := n0_; have HO159 := n1_; have HB := n2_; clear n0_ n1_ n2_; (try clear hb); (try clear hb2); (try clear hk); (try clear hi); (try clear ho0)))
  go_ret
  exact ⟨_, by first | rfl | (simp [errW_none, errW_some] <;> rfl) | (simp [*, errW_none, errW_some] <;> rfl), by (with_reducible repeat (first | apply Kd.R_alloc | apply Kd.R_drewN | apply Kd.R_drew)); exact HO159.out, bh_ HB⟩
end Go.Proofs.YtbmhfnncagncmaaGreatDoor.P
