/- Laid by a program of this session's own (wip/wprint.py, over the kit's print.py): functions of the given program as plain Lean functions, and that the program's calls come to their answers. -/
import Derived.Test.YtlcablcpcbmgeaaGreatDoorPx0
import Derived.Test.YtlcablcpcbmgeaaGreatDoorPx26
import Derived.Test.YtlcablcpcbmgeaaGreatDoorPx27
namespace Go.Proofs.YtlcablcpcbmgeaaGreatDoor.P
open Go.RowKit Go.Proofs.YtlcablcpcbmgeaaGreatDoorW.PrintWords Go.Proofs.YtlcablcpcbmgeaaGreatDoorW.PrintLast Go.Proofs.YtlcablcpcbmgeaaGreatDoorW.PrintMore
attribute [local go_sem] max2_int min2_int max_two min_two max_three min_three max_four min_four   -- for this text's walks alone
set_option linter.unusedVariables false
set_option linter.unusedSimpArgs false

/-! ### salvorref16_Print: function 16 -/
def salvorref16_Print.l0 : Nat → ByteArray → Int → Int → Int → Int → List (S23) → Option (ByteArray)
 | 0, _, _, _, _, _, _ => none
 | k + 1, x3, x4, x210000, x210001, x210002, x210003 => if x4 < (x210003.length : Int) then (if 0 ≤ x4 then ((salvorref1_Hex.f k ((rd_T23 x210003 x4).f0)).bind fun t217 => (if x3.size + t217.size ≤ 9223372036854775807 then (if (x3 ++ t217).size + 1 ≤ 9223372036854775807 then ((salvorref1_Hex.f k ((rd_T23 x210003 x4).f1)).bind fun t219 => (if ((x3 ++ t217) ++ (⟨#[32]⟩ : ByteArray)).size + t219.size ≤ 9223372036854775807 then (if (((x3 ++ t217) ++ (⟨#[32]⟩ : ByteArray)) ++ t219).size + 1 ≤ 9223372036854775807 then ((some (([(rd_T23 x210003 x4).f2] : List Int) : List Int)).bind fun y221 => (if ((((x3 ++ t217) ++ (⟨#[32]⟩ : ByteArray)) ++ t219) ++ (⟨#[32]⟩ : ByteArray)).size + (strOfNums y221).size ≤ 9223372036854775807 then (if (((((x3 ++ t217) ++ (⟨#[32]⟩ : ByteArray)) ++ t219) ++ (⟨#[32]⟩ : ByteArray)) ++ (strOfNums y221)).size + 1 ≤ 9223372036854775807 then (if (((((((x3 ++ t217) ++ (⟨#[32]⟩ : ByteArray)) ++ t219) ++ (⟨#[32]⟩ : ByteArray)) ++ (strOfNums y221)) ++ (⟨#[10]⟩ : ByteArray)).size : Int) > 40000 then (some (⟨#[]⟩ : ByteArray)) else (salvorref16_Print.l0 k ((((((x3 ++ t217) ++ (⟨#[32]⟩ : ByteArray)) ++ t219) ++ (⟨#[32]⟩ : ByteArray)) ++ (strOfNums y221)) ++ (⟨#[10]⟩ : ByteArray)) (wrap64 (x4 + 1)) x210000 x210001 x210002 x210003)) else (none)) else (none))) else (none)) else (none))) else (none)) else (none))) else (none)) else (some x3)
def salvorref16_Print.f (k : Nat) (a0_0 : Int) (a0_1 : Int) (a0_2 : Int) (l0_3 : List (S23)) : Option (ByteArray) := (salvorref16_MayMap.f k a0_0 a0_1 a0_2 l0_3).bind fun t210 => (if t210 = true then ((salvorref1_Hex.f k a0_0).bind fun t211 => (if 9 + t211.size ≤ 9223372036854775807 then (if ((⟨#[35, 32, 115, 97, 108, 118, 111, 114, 10]⟩ : ByteArray) ++ t211).size + 1 ≤ 9223372036854775807 then ((some (([a0_2] : List Int) : List Int)).bind fun y212 => (if (((⟨#[35, 32, 115, 97, 108, 118, 111, 114, 10]⟩ : ByteArray) ++ t211) ++ (⟨#[32]⟩ : ByteArray)).size + (strOfNums y212).size ≤ 9223372036854775807 then (if ((((⟨#[35, 32, 115, 97, 108, 118, 111, 114, 10]⟩ : ByteArray) ++ t211) ++ (⟨#[32]⟩ : ByteArray)) ++ (strOfNums y212)).size + 1 ≤ 9223372036854775807 then ((salvorref1_Dec.f k a0_1).bind fun t215 => (if (((((⟨#[35, 32, 115, 97, 108, 118, 111, 114, 10]⟩ : ByteArray) ++ t211) ++ (⟨#[32]⟩ : ByteArray)) ++ (strOfNums y212)) ++ (⟨#[32]⟩ : ByteArray)).size + t215.size ≤ 9223372036854775807 then (if ((((((⟨#[35, 32, 115, 97, 108, 118, 111, 114, 10]⟩ : ByteArray) ++ t211) ++ (⟨#[32]⟩ : ByteArray)) ++ (strOfNums y212)) ++ (⟨#[32]⟩ : ByteArray)) ++ t215).size + 1 ≤ 9223372036854775807 then (salvorref16_Print.l0 k (((((((⟨#[35, 32, 115, 97, 108, 118, 111, 114, 10]⟩ : ByteArray) ++ t211) ++ (⟨#[32]⟩ : ByteArray)) ++ (strOfNums y212)) ++ (⟨#[32]⟩ : ByteArray)) ++ t215) ++ (⟨#[10]⟩ : ByteArray)) 0 a0_0 a0_1 a0_2 l0_3) else (none)) else (none))) else (none)) else (none))) else (none)) else (none))) else (some (⟨#[]⟩ : ByteArray)))
theorem salvorref16_Print.mono_l : ∀ k, (∀ y0 y1 y2 y3 y4 y5, LeO (salvorref16_Print.l0 k y0 y1 y2 y3 y4 y5) (salvorref16_Print.l0 (k + 1) y0 y1 y2 y3 y4 y5))
 | 0 => fun _ _ _ _ _ _ r h => by simp [salvorref16_Print.l0] at h
 | k + 1 => by
  have ih0 := salvorref16_Print.mono_l k
  ·intro y0 y1 y2 y3 y4 y5
   unfold salvorref16_Print.l0
   repeat' first
   | (with_reducible exact ih0 _ _ _ _ _ _)
   | (with_reducible exact salvorref16_MayMap.mono _ _ _ _ _)
   | (with_reducible exact salvorref1_Dec.mono _ _)
   | (with_reducible exact salvorref1_Hex.mono _ _)
   | (with_reducible exact LeO.refl _)
   | (with_reducible exact LeO.none _)
   | (with_reducible refine LeO.ite ?_ ?_)
   | (with_reducible refine LeO.bind ?_ (fun _ => ?_))
   | exact ih0 _ _ _ _ _ _
   | exact salvorref16_MayMap.mono _ _ _ _ _
   | exact salvorref1_Dec.mono _ _
   | exact salvorref1_Hex.mono _ _
   | exact LeO.none _
   | refine LeO.ite ?_ ?_
   | refine LeO.bind ?_ (fun _ => ?_)
theorem salvorref16_Print.mono : ∀ a0 a1 a2 a3 k, LeO (salvorref16_Print.f k a0 a1 a2 a3) (salvorref16_Print.f (k + 1) a0 a1 a2 a3) := by
 intro a0 a1 a2 a3 k
 have ih0 := salvorref16_Print.mono_l k
 unfold salvorref16_Print.f
 repeat' first
   | (with_reducible exact ih0 _ _ _ _ _ _)
   | (with_reducible exact salvorref16_MayMap.mono _ _ _ _ _)
   | (with_reducible exact salvorref1_Dec.mono _ _)
   | (with_reducible exact salvorref1_Hex.mono _ _)
   | (with_reducible exact LeO.refl _)
   | (with_reducible exact LeO.none _)
   | (with_reducible refine LeO.ite ?_ ?_)
   | (with_reducible refine LeO.bind ?_ (fun _ => ?_))
   | exact ih0 _ _ _ _ _ _
   | exact salvorref16_MayMap.mono _ _ _ _ _
   | exact salvorref1_Dec.mono _ _
   | exact salvorref1_Hex.mono _ _
   | exact LeO.none _
   | refine LeO.ite ?_ ?_
   | refine LeO.bind ?_ (fun _ => ?_)
def salvorref16_Print.T3 : Bool × List (List Nat × List Nat) := (true, [([], []), ([0], [0]), ([1], [1]), ([2], [2]), ([3], [3]), ([], []), ([5], [5]), ([6], [6]), ([7], [7]), ([4, 8], [4, 8]), ([9], [9]), ([], []), ([11], [11]), ([12, 2], [12]), ([10, 13], [10, 13]), ([14], [14]), ([15, 13, 0, 1, 2, 3, 4, 5, 6, 7, 8, 9, 10, 11, 12, 13, 14, 15], [15])])
def salvorref16_Print.B3 : List Nat := [0, 1, 3, 7, 15, 0, 32, 96, 224, 511, 1023, 0, 2048, 6151, 16383, 32767, 65535]
theorem salvorref16_Print.tab3 : rtab .any (opsOf Tryz.f16 3) = salvorref16_Print.T3 := by kernel_rfl
theorem salvorref16_Print.bits3 : waitsOk salvorref16_Print.T3.2 salvorref16_Print.B3 = true := by kernel_rfl
def salvorref16_Print.T7 : Bool × List (List Nat × List Nat) := (true, [([], []), ([], []), ([1], [1]), ([], []), ([2, 3], [2, 3]), ([4], [4]), ([5], [5]), ([6], [6]), ([0, 7], [0, 7]), ([8], [8]), ([], []), ([10], [10]), ([], []), ([11, 12], [11, 12]), ([13], [13]), ([14], [14]), ([15, 7], [15]), ([9, 16], [9, 16]), ([17], [17]), ([], []), ([19], [19]), ([], []), ([20, 21], [20, 21]), ([22], [22]), ([23], [23]), ([24], [24]), ([25], [25]), ([18, 26], [18, 26]), ([27], [27]), ([28, 16, 0, 1, 2, 3, 4, 5, 6, 7, 8, 9, 10, 11, 12, 13, 14, 15, 16, 17, 18, 19, 20, 21, 22, 23, 24, 25, 26, 27, 28], [0, 28])])
def salvorref16_Print.B7 : List Nat := [0, 0, 2, 0, 14, 30, 62, 126, 255, 511, 0, 1024, 0, 7168, 15360, 31744, 64766, 131071, 262143, 0, 524288, 0, 3670016, 7864320, 16252928, 33030144, 66584576, 134217727, 268435455, 536870911]
theorem salvorref16_Print.tab7 : rtab .any (opsOf Tryz.f16 7) = salvorref16_Print.T7 := by kernel_rfl
theorem salvorref16_Print.bits7 : waitsOk salvorref16_Print.T7.2 salvorref16_Print.B7 = true := by kernel_rfl
set_option maxHeartbeats 8000000 in
set_option maxRecDepth 100000 in
theorem salvorref16_Print.calls (k : Nat) (a0_0 : Int) (a0_1 : Int) (a0_2 : Int) (A0_3 : Option Addr) (c0_3 : Nat) (l0_3 : List (S23)) (r : ByteArray) (w : World) (hr0_3 : Kd.C k23 w A0_3 l0_3.length l0_3) (hc0_3 : l0_3.length ≤ c0_3) (h : salvorref16_Print.f k a0_0 a0_1 a0_2 l0_3 = some r) :
  Calls Tryz.prog 16 #[.agg #[.int .i64 a0_0, .int .i64 a0_1, .int .u8 a0_2, .slice A0_3 l0_3.length c0_3]] w fun e w' => e = .returned (.string r) ∧ Below w.heap.size w w' := by
 have hu26 := Tryz.underlying26
 have HR0_3 := Aside0.mk hr0_3
 have HC0_3 := Aside0.mk hc0_3
 clear hr0_3 hc0_3
 have HB := Aside0.mk (Below.refl w.heap.size w)
 have H : ((salvorref16_MayMap.f k a0_0 a0_1 a0_2 l0_3).bind fun t210 => (if t210 = true then ((salvorref1_Hex.f k a0_0).bind fun t211 => (if 9 + t211.size ≤ 9223372036854775807 then (if ((⟨#[35, 32, 115, 97, 108, 118, 111, 114, 10]⟩ : ByteArray) ++ t211).size + 1 ≤ 9223372036854775807 then ((some (([a0_2] : List Int) : List Int)).bind fun y212 => (if (((⟨#[35, 32, 115, 97, 108, 118, 111, 114, 10]⟩ : ByteArray) ++ t211) ++ (⟨#[32]⟩ : ByteArray)).size + (strOfNums y212).size ≤ 9223372036854775807 then (if ((((⟨#[35, 32, 115, 97, 108, 118, 111, 114, 10]⟩ : ByteArray) ++ t211) ++ (⟨#[32]⟩ : ByteArray)) ++ (strOfNums y212)).size + 1 ≤ 9223372036854775807 then ((salvorref1_Dec.f k a0_1).bind fun t215 => (if (((((⟨#[35, 32, 115, 97, 108, 118, 111, 114, 10]⟩ : ByteArray) ++ t211) ++ (⟨#[32]⟩ : ByteArray)) ++ (strOfNums y212)) ++ (⟨#[32]⟩ : ByteArray)).size + t215.size ≤ 9223372036854775807 then (if ((((((⟨#[35, 32, 115, 97, 108, 118, 111, 114, 10]⟩ : ByteArray) ++ t211) ++ (⟨#[32]⟩ : ByteArray)) ++ (strOfNums y212)) ++ (⟨#[32]⟩ : ByteArray)) ++ t215).size + 1 ≤ 9223372036854775807 then (salvorref16_Print.l0 k (((((((⟨#[35, 32, 115, 97, 108, 118, 111, 114, 10]⟩ : ByteArray) ++ t211) ++ (⟨#[32]⟩ : ByteArray)) ++ (strOfNums y212)) ++ (⟨#[32]⟩ : ByteArray)) ++ t215) ++ (⟨#[10]⟩ : ByteArray)) 0 a0_0 a0_1 a0_2 l0_3) else (none)) else (none))) else (none)) else (none))) else (none)) else (none))) else (some (⟨#[]⟩ : ByteArray)))) = some r := h
 clear h
 replace H := Option.bind_eq_some_iff.mp H
 obtain ⟨t210, A20, H⟩ := H
 replace H : (if t210 = true then ((salvorref1_Hex.f k a0_0).bind fun t211 => (if 9 + t211.size ≤ 9223372036854775807 then (if ((⟨#[35, 32, 115, 97, 108, 118, 111, 114, 10]⟩ : ByteArray) ++ t211).size + 1 ≤ 9223372036854775807 then ((some (([a0_2] : List Int) : List Int)).bind fun y212 => (if (((⟨#[35, 32, 115, 97, 108, 118, 111, 114, 10]⟩ : ByteArray) ++ t211) ++ (⟨#[32]⟩ : ByteArray)).size + (strOfNums y212).size ≤ 9223372036854775807 then (if ((((⟨#[35, 32, 115, 97, 108, 118, 111, 114, 10]⟩ : ByteArray) ++ t211) ++ (⟨#[32]⟩ : ByteArray)) ++ (strOfNums y212)).size + 1 ≤ 9223372036854775807 then ((salvorref1_Dec.f k a0_1).bind fun t215 => (if (((((⟨#[35, 32, 115, 97, 108, 118, 111, 114, 10]⟩ : ByteArray) ++ t211) ++ (⟨#[32]⟩ : ByteArray)) ++ (strOfNums y212)) ++ (⟨#[32]⟩ : ByteArray)).size + t215.size ≤ 9223372036854775807 then (if ((((((⟨#[35, 32, 115, 97, 108, 118, 111, 114, 10]⟩ : ByteArray) ++ t211) ++ (⟨#[32]⟩ : ByteArray)) ++ (strOfNums y212)) ++ (⟨#[32]⟩ : ByteArray)) ++ t215).size + 1 ≤ 9223372036854775807 then (salvorref16_Print.l0 k (((((((⟨#[35, 32, 115, 97, 108, 118, 111, 114, 10]⟩ : ByteArray) ++ t211) ++ (⟨#[32]⟩ : ByteArray)) ++ (strOfNums y212)) ++ (⟨#[32]⟩ : ByteArray)) ++ t215) ++ (⟨#[10]⟩ : ByteArray)) 0 a0_0 a0_1 a0_2 l0_3) else (none)) else (none))) else (none)) else (none))) else (none)) else (none))) else (some (⟨#[]⟩ : ByteArray))) = some r := H
 have A2 := Aside0.mk A20
 clear A20
 by_cases c3 : t210 = true
 ·subst c3
  have H1 : ((salvorref1_Hex.f k a0_0).bind fun t211 => (if 9 + t211.size ≤ 9223372036854775807 then (if ((⟨#[35, 32, 115, 97, 108, 118, 111, 114, 10]⟩ : ByteArray) ++ t211).size + 1 ≤ 9223372036854775807 then ((some (([a0_2] : List Int) : List Int)).bind fun y212 => (if (((⟨#[35, 32, 115, 97, 108, 118, 111, 114, 10]⟩ : ByteArray) ++ t211) ++ (⟨#[32]⟩ : ByteArray)).size + (strOfNums y212).size ≤ 9223372036854775807 then (if ((((⟨#[35, 32, 115, 97, 108, 118, 111, 114, 10]⟩ : ByteArray) ++ t211) ++ (⟨#[32]⟩ : ByteArray)) ++ (strOfNums y212)).size + 1 ≤ 9223372036854775807 then ((salvorref1_Dec.f k a0_1).bind fun t215 => (if (((((⟨#[35, 32, 115, 97, 108, 118, 111, 114, 10]⟩ : ByteArray) ++ t211) ++ (⟨#[32]⟩ : ByteArray)) ++ (strOfNums y212)) ++ (⟨#[32]⟩ : ByteArray)).size + t215.size ≤ 9223372036854775807 then (if ((((((⟨#[35, 32, 115, 97, 108, 118, 111, 114, 10]⟩ : ByteArray) ++ t211) ++ (⟨#[32]⟩ : ByteArray)) ++ (strOfNums y212)) ++ (⟨#[32]⟩ : ByteArray)) ++ t215).size + 1 ≤ 9223372036854775807 then (salvorref16_Print.l0 k (((((((⟨#[35, 32, 115, 97, 108, 118, 111, 114, 10]⟩ : ByteArray) ++ t211) ++ (⟨#[32]⟩ : ByteArray)) ++ (strOfNums y212)) ++ (⟨#[32]⟩ : ByteArray)) ++ t215) ++ (⟨#[10]⟩ : ByteArray)) 0 a0_0 a0_1 a0_2 l0_3) else (none)) else (none))) else (none)) else (none))) else (none)) else (none))) = some r := by rw [if_pos rfl] at H; exact H
  clear H
  have H := H1
  clear H1
  replace H := Option.bind_eq_some_iff.mp H
  obtain ⟨t211, A40, H⟩ := H
  replace H : (if 9 + t211.size ≤ 9223372036854775807 then (if ((⟨#[35, 32, 115, 97, 108, 118, 111, 114, 10]⟩ : ByteArray) ++ t211).size + 1 ≤ 9223372036854775807 then ((some (([a0_2] : List Int) : List Int)).bind fun y212 => (if (((⟨#[35, 32, 115, 97, 108, 118, 111, 114, 10]⟩ : ByteArray) ++ t211) ++ (⟨#[32]⟩ : ByteArray)).size + (strOfNums y212).size ≤ 9223372036854775807 then (if ((((⟨#[35, 32, 115, 97, 108, 118, 111, 114, 10]⟩ : ByteArray) ++ t211) ++ (⟨#[32]⟩ : ByteArray)) ++ (strOfNums y212)).size + 1 ≤ 9223372036854775807 then ((salvorref1_Dec.f k a0_1).bind fun t215 => (if (((((⟨#[35, 32, 115, 97, 108, 118, 111, 114, 10]⟩ : ByteArray) ++ t211) ++ (⟨#[32]⟩ : ByteArray)) ++ (strOfNums y212)) ++ (⟨#[32]⟩ : ByteArray)).size + t215.size ≤ 9223372036854775807 then (if ((((((⟨#[35, 32, 115, 97, 108, 118, 111, 114, 10]⟩ : ByteArray) ++ t211) ++ (⟨#[32]⟩ : ByteArray)) ++ (strOfNums y212)) ++ (⟨#[32]⟩ : ByteArray)) ++ t215).size + 1 ≤ 9223372036854775807 then (salvorref16_Print.l0 k (((((((⟨#[35, 32, 115, 97, 108, 118, 111, 114, 10]⟩ : ByteArray) ++ t211) ++ (⟨#[32]⟩ : ByteArray)) ++ (strOfNums y212)) ++ (⟨#[32]⟩ : ByteArray)) ++ t215) ++ (⟨#[10]⟩ : ByteArray)) 0 a0_0 a0_1 a0_2 l0_3) else (none)) else (none))) else (none)) else (none))) else (none)) else (none)) = some r := H
  have A4 := Aside0.mk A40
  clear A40
  by_cases c5 : 9 + t211.size ≤ 9223372036854775807
  ·rw [if_pos c5] at H
   have c5b0 := eq_true c5
   have c5b1 : decide (9 + t211.size ≤ 9223372036854775807) = true := decide_eq_true c5
   try have c5b2 : (9223372036854775807 < 9 + t211.size) = False := eq_false (Nat.not_lt.2 c5)
   by_cases c6 : ((⟨#[35, 32, 115, 97, 108, 118, 111, 114, 10]⟩ : ByteArray) ++ t211).size + 1 ≤ 9223372036854775807
   ·rw [if_pos c6] at H
    have c6b0 := eq_true c6
    have c6b1 : decide (((⟨#[35, 32, 115, 97, 108, 118, 111, 114, 10]⟩ : ByteArray) ++ t211).size + 1 ≤ 9223372036854775807) = true := decide_eq_true c6
    try have c6b2 : (9223372036854775807 < ((⟨#[35, 32, 115, 97, 108, 118, 111, 114, 10]⟩ : ByteArray) ++ t211).size + 1) = False := eq_false (Nat.not_lt.2 c6)
    try have c6b3 : (9223372036854775807 < 9 + t211.size + 1) = False := eq_false (Nat.not_lt.2 (by have h_ := c6; simp only [ByteArray.size_append] at h_; exact h_))
    obtain ⟨y212, hy212⟩ : ∃ y_ : List Int, y_ = (([a0_2] : List Int)) := ⟨_, rfl⟩
    replace H : (if (((⟨#[35, 32, 115, 97, 108, 118, 111, 114, 10]⟩ : ByteArray) ++ t211) ++ (⟨#[32]⟩ : ByteArray)).size + (strOfNums y212).size ≤ 9223372036854775807 then (if ((((⟨#[35, 32, 115, 97, 108, 118, 111, 114, 10]⟩ : ByteArray) ++ t211) ++ (⟨#[32]⟩ : ByteArray)) ++ (strOfNums y212)).size + 1 ≤ 9223372036854775807 then ((salvorref1_Dec.f k a0_1).bind fun t215 => (if (((((⟨#[35, 32, 115, 97, 108, 118, 111, 114, 10]⟩ : ByteArray) ++ t211) ++ (⟨#[32]⟩ : ByteArray)) ++ (strOfNums y212)) ++ (⟨#[32]⟩ : ByteArray)).size + t215.size ≤ 9223372036854775807 then (if ((((((⟨#[35, 32, 115, 97, 108, 118, 111, 114, 10]⟩ : ByteArray) ++ t211) ++ (⟨#[32]⟩ : ByteArray)) ++ (strOfNums y212)) ++ (⟨#[32]⟩ : ByteArray)) ++ t215).size + 1 ≤ 9223372036854775807 then (salvorref16_Print.l0 k (((((((⟨#[35, 32, 115, 97, 108, 118, 111, 114, 10]⟩ : ByteArray) ++ t211) ++ (⟨#[32]⟩ : ByteArray)) ++ (strOfNums y212)) ++ (⟨#[32]⟩ : ByteArray)) ++ t215) ++ (⟨#[10]⟩ : ByteArray)) 0 a0_0 a0_1 a0_2 l0_3) else (none)) else (none))) else (none)) else (none)) = some r := by first | (rw [hy212]; with_reducible exact H) | (have H2_ := (Option.bind_some _ _).symm.trans H; rw [hy212]; with_reducible exact H2_) | (have H2_ := (Option.bind_some _ _).symm.trans H; with_reducible exact H2_) | with_reducible exact H | (rw [hy212]; exact H) | exact H
    have Ny212 := Aside0.mk hy212
    clear hy212
    by_cases c7 : (((⟨#[35, 32, 115, 97, 108, 118, 111, 114, 10]⟩ : ByteArray) ++ t211) ++ (⟨#[32]⟩ : ByteArray)).size + (strOfNums y212).size ≤ 9223372036854775807
    ·rw [if_pos c7] at H
     have c7b0 := eq_true c7
     have c7b1 : decide ((((⟨#[35, 32, 115, 97, 108, 118, 111, 114, 10]⟩ : ByteArray) ++ t211) ++ (⟨#[32]⟩ : ByteArray)).size + (strOfNums y212).size ≤ 9223372036854775807) = true := decide_eq_true c7
     try have c7b2 : (9223372036854775807 < (((⟨#[35, 32, 115, 97, 108, 118, 111, 114, 10]⟩ : ByteArray) ++ t211) ++ (⟨#[32]⟩ : ByteArray)).size + (strOfNums y212).size) = False := eq_false (Nat.not_lt.2 c7)
     try have c7b3 : (9223372036854775807 < 9 + t211.size + 1 + (strOfNums y212).size) = False := eq_false (Nat.not_lt.2 (by have h_ := c7; simp only [ByteArray.size_append] at h_; exact h_))
     by_cases c8 : ((((⟨#[35, 32, 115, 97, 108, 118, 111, 114, 10]⟩ : ByteArray) ++ t211) ++ (⟨#[32]⟩ : ByteArray)) ++ (strOfNums y212)).size + 1 ≤ 9223372036854775807
     ·rw [if_pos c8] at H
      have c8b0 := eq_true c8
      have c8b1 : decide (((((⟨#[35, 32, 115, 97, 108, 118, 111, 114, 10]⟩ : ByteArray) ++ t211) ++ (⟨#[32]⟩ : ByteArray)) ++ (strOfNums y212)).size + 1 ≤ 9223372036854775807) = true := decide_eq_true c8
      try have c8b2 : (9223372036854775807 < ((((⟨#[35, 32, 115, 97, 108, 118, 111, 114, 10]⟩ : ByteArray) ++ t211) ++ (⟨#[32]⟩ : ByteArray)) ++ (strOfNums y212)).size + 1) = False := eq_false (Nat.not_lt.2 c8)
      try have c8b3 : (9223372036854775807 < 9 + t211.size + 1 + (strOfNums y212).size + 1) = False := eq_false (Nat.not_lt.2 (by have h_ := c8; simp only [ByteArray.size_append] at h_; exact h_))
      replace H := Option.bind_eq_some_iff.mp H
      obtain ⟨t215, A90, H⟩ := H
      replace H : (if (((((⟨#[35, 32, 115, 97, 108, 118, 111, 114, 10]⟩ : ByteArray) ++ t211) ++ (⟨#[32]⟩ : ByteArray)) ++ (strOfNums y212)) ++ (⟨#[32]⟩ : ByteArray)).size + t215.size ≤ 9223372036854775807 then (if ((((((⟨#[35, 32, 115, 97, 108, 118, 111, 114, 10]⟩ : ByteArray) ++ t211) ++ (⟨#[32]⟩ : ByteArray)) ++ (strOfNums y212)) ++ (⟨#[32]⟩ : ByteArray)) ++ t215).size + 1 ≤ 9223372036854775807 then (salvorref16_Print.l0 k (((((((⟨#[35, 32, 115, 97, 108, 118, 111, 114, 10]⟩ : ByteArray) ++ t211) ++ (⟨#[32]⟩ : ByteArray)) ++ (strOfNums y212)) ++ (⟨#[32]⟩ : ByteArray)) ++ t215) ++ (⟨#[10]⟩ : ByteArray)) 0 a0_0 a0_1 a0_2 l0_3) else (none)) else (none)) = some r := H
      have A9 := Aside0.mk A90
      clear A90
      by_cases c10 : (((((⟨#[35, 32, 115, 97, 108, 118, 111, 114, 10]⟩ : ByteArray) ++ t211) ++ (⟨#[32]⟩ : ByteArray)) ++ (strOfNums y212)) ++ (⟨#[32]⟩ : ByteArray)).size + t215.size ≤ 9223372036854775807
      ·rw [if_pos c10] at H
       have c10b0 := eq_true c10
       have c10b1 : decide ((((((⟨#[35, 32, 115, 97, 108, 118, 111, 114, 10]⟩ : ByteArray) ++ t211) ++ (⟨#[32]⟩ : ByteArray)) ++ (strOfNums y212)) ++ (⟨#[32]⟩ : ByteArray)).size + t215.size ≤ 9223372036854775807) = true := decide_eq_true c10
       try have c10b2 : (9223372036854775807 < (((((⟨#[35, 32, 115, 97, 108, 118, 111, 114, 10]⟩ : ByteArray) ++ t211) ++ (⟨#[32]⟩ : ByteArray)) ++ (strOfNums y212)) ++ (⟨#[32]⟩ : ByteArray)).size + t215.size) = False := eq_false (Nat.not_lt.2 c10)
       try have c10b3 : (9223372036854775807 < 9 + t211.size + 1 + (strOfNums y212).size + 1 + t215.size) = False := eq_false (Nat.not_lt.2 (by have h_ := c10; simp only [ByteArray.size_append] at h_; exact h_))
       by_cases c11 : ((((((⟨#[35, 32, 115, 97, 108, 118, 111, 114, 10]⟩ : ByteArray) ++ t211) ++ (⟨#[32]⟩ : ByteArray)) ++ (strOfNums y212)) ++ (⟨#[32]⟩ : ByteArray)) ++ t215).size + 1 ≤ 9223372036854775807
       ·rw [if_pos c11] at H
        have c11b0 := eq_true c11
        have c11b1 : decide (((((((⟨#[35, 32, 115, 97, 108, 118, 111, 114, 10]⟩ : ByteArray) ++ t211) ++ (⟨#[32]⟩ : ByteArray)) ++ (strOfNums y212)) ++ (⟨#[32]⟩ : ByteArray)) ++ t215).size + 1 ≤ 9223372036854775807) = true := decide_eq_true c11
        try have c11b2 : (9223372036854775807 < ((((((⟨#[35, 32, 115, 97, 108, 118, 111, 114, 10]⟩ : ByteArray) ++ t211) ++ (⟨#[32]⟩ : ByteArray)) ++ (strOfNums y212)) ++ (⟨#[32]⟩ : ByteArray)) ++ t215).size + 1) = False := eq_false (Nat.not_lt.2 c11)
        try have c11b3 : (9223372036854775807 < 9 + t211.size + 1 + (strOfNums y212).size + 1 + t215.size + 1) = False := eq_false (Nat.not_lt.2 (by have h_ := c11; simp only [ByteArray.size_append] at h_; exact h_))
        have H' := Aside0.mk H
        clear H
        go_enter Tryz.func16, Tryz.ntmps16
        try go_wp2_with (first | ((with_reducible refine gate_dst (N := 1) rfl ?_); refine box_e 1 #[.int .i64 a0_0, .int .i64 a0_1, .int .u8 a0_2, .slice A0_3 l0_3.length c0_3] 26 ?_; intro gb209 hg w12 hbox hb; have BK209 := Aside0.mk hbox; have GW209 := bg_ HB hg; have GE209 := bg_ HB hg; replace HB := bs_ HB hb; clear hb hbox hg; obtain ⟨hcz13_0, hcz13_1, hcz13_2, hcz13_3, hfz13_0, hfz13_1, hfz13_2, hfz13_3⟩ := c4_ BK209) | ((with_reducible refine gate_callee (f := 15) rfl ?_); refine gl_ (some 6) rfl rfl Tryz.func15 (by kernel_rfl) rfl #[.agg #[.int .i64 a0_0, .int .i64 a0_1, .int .u8 a0_2, .slice A0_3 l0_3.length c0_3]] rfl ?_; (with_reducible refine (salvorref16_MayMap.calls k a0_0 a0_1 a0_2 _ _ l0_3 true _ ?side1 ?side2 A2.out).mono ?_); (case side1 => exact cb_ HR0_3 HB); (case side2 => exact HC0_3.out); rintro e w14 ⟨rfl, hb⟩; refine ⟨_, rfl, ?_⟩; replace BK209 := bb_ BK209 hb; replace HB := bs_ HB hb; (try clear hb)))
        replace BK209 := Aside0.mk (blk_drew BK209.out)
        replace HB := Aside0.mk (below_drew1 HB.out)
        refine start_ (n := 17) (S := fun w' => w'.cell? ⟨gb209, 0, none⟩ = some (.int .i64 a0_0) ∧ w'.cell? ⟨gb209, 1, none⟩ = some (.int .i64 a0_1) ∧ w'.cell? ⟨gb209, 2, none⟩ = some (.int .u8 a0_2) ∧ w'.cell? ⟨gb209, 3, none⟩ = some (.slice A0_3 l0_3.length c0_3)) (ds := []) #[false, false, false, false, false, false, false, false, false, false, false, false, false, false, false, false, false] (by kernel_rfl) rfl rfl (k4_ BK209) (fun hHeld => ?_); refine with_tabW salvorref16_Print.tab3 salvorref16_Print.bits3 (fun HT_ HW_ => ?_)
        generalize w14.drew = w15 at BK209 HB hHeld ⊢
        refine pu_ 0 8 (lb_ 17 1) rfl rfl (ao_ HT_) ?_
        refine pu_ 5 13 (lb_ 17 33) rfl rfl (ao_ HT_) ?_
        refine pu_ 11 19 (lb_ 17 2081) rfl rfl (ao_ HT_) ?_
        refine tk_ 1 9 (lb_ 17 2083) rfl rfl (take_ofW HT_.out HW_.out (by kernel_rfl)) hHeld ?_
        refine tk_ 6 14 (lb_ 17 2147) rfl rfl (take_ofW HT_.out HW_.out (by kernel_rfl)) hHeld ?_
        refine tk_ 12 20 (lb_ 17 6243) rfl rfl (take_ofW HT_.out HW_.out (by kernel_rfl)) hHeld ?_
        refine join_ (σ := Value) 3 #[true, true, true, true, true, true, true, true, true, true, true, true, true, true, false, false, false] (fun s_ => [(10, .string t211), (15, s_), (16, .string (strOfNums y212)), (21, .string t215), (11, .string ((⟨#[35, 32, 115, 97, 108, 118, 111, 114, 10]⟩ : ByteArray) ++ t211)), (12, .string (((⟨#[35, 32, 115, 97, 108, 118, 111, 114, 10]⟩ : ByteArray) ++ t211) ++ (⟨#[32]⟩ : ByteArray))), (17, .string ((((⟨#[35, 32, 115, 97, 108, 118, 111, 114, 10]⟩ : ByteArray) ++ t211) ++ (⟨#[32]⟩ : ByteArray)) ++ (strOfNums y212))), (18, .string (((((⟨#[35, 32, 115, 97, 108, 118, 111, 114, 10]⟩ : ByteArray) ++ t211) ++ (⟨#[32]⟩ : ByteArray)) ++ (strOfNums y212)) ++ (⟨#[32]⟩ : ByteArray)))]) (fun s_ w' => (w'.cell? ⟨gb209, 0, none⟩ = some (.int .i64 a0_0) ∧ w'.cell? ⟨gb209, 1, none⟩ = some (.int .i64 a0_1) ∧ w'.cell? ⟨gb209, 2, none⟩ = some (.int .u8 a0_2) ∧ w'.cell? ⟨gb209, 3, none⟩ = some (.slice A0_3 l0_3.length c0_3)) ∧ (Kd.R (Kd.int .u8) 5 w' w.heap.size (fun _ => True) s_ y212) ∧ (w'.heap[gb209]? = some (.cells #[.int .i64 a0_0, .int .i64 a0_1, .int .u8 a0_2, .slice A0_3 l0_3.length c0_3] 26 (0, 0))) ∧ (Below w.heap.size w w')) ?_ ?_
        rotate_left
        ·intro hJ2_7_8_13
         refine join_ (σ := Value) 4 #[true, true, true, true, true, true, true, true, true, true, true, true, true, false, false, false, false] (fun s_ => [(10, .string t211), (15, s_), (16, .string (strOfNums y212)), (11, .string ((⟨#[35, 32, 115, 97, 108, 118, 111, 114, 10]⟩ : ByteArray) ++ t211)), (12, .string (((⟨#[35, 32, 115, 97, 108, 118, 111, 114, 10]⟩ : ByteArray) ++ t211) ++ (⟨#[32]⟩ : ByteArray))), (17, .string ((((⟨#[35, 32, 115, 97, 108, 118, 111, 114, 10]⟩ : ByteArray) ++ t211) ++ (⟨#[32]⟩ : ByteArray)) ++ (strOfNums y212))), (18, .string (((((⟨#[35, 32, 115, 97, 108, 118, 111, 114, 10]⟩ : ByteArray) ++ t211) ++ (⟨#[32]⟩ : ByteArray)) ++ (strOfNums y212)) ++ (⟨#[32]⟩ : ByteArray)))]) (fun s_ w' => (w'.cell? ⟨gb209, 0, none⟩ = some (.int .i64 a0_0) ∧ w'.cell? ⟨gb209, 1, none⟩ = some (.int .i64 a0_1) ∧ w'.cell? ⟨gb209, 2, none⟩ = some (.int .u8 a0_2) ∧ w'.cell? ⟨gb209, 3, none⟩ = some (.slice A0_3 l0_3.length c0_3)) ∧ (Kd.R (Kd.int .u8) 5 w' w.heap.size (fun _ => True) s_ y212) ∧ (w'.heap[gb209]? = some (.cells #[.int .i64 a0_0, .int .i64 a0_1, .int .u8 a0_2, .slice A0_3 l0_3.length c0_3] 26 (0, 0))) ∧ (Below w.heap.size w w')) ?_ ?_
         rotate_left
         ·intro hJ2_7_8
          refine join_ (σ := Value) 6 #[true, true, true, true, true, true, true, true, false, false, false, true, true, true, false, false, false] (fun s_ => [(10, .string t211), (15, s_), (21, .string t215), (11, .string ((⟨#[35, 32, 115, 97, 108, 118, 111, 114, 10]⟩ : ByteArray) ++ t211)), (12, .string (((⟨#[35, 32, 115, 97, 108, 118, 111, 114, 10]⟩ : ByteArray) ++ t211) ++ (⟨#[32]⟩ : ByteArray)))]) (fun s_ w' => (w'.cell? ⟨gb209, 0, none⟩ = some (.int .i64 a0_0) ∧ w'.cell? ⟨gb209, 1, none⟩ = some (.int .i64 a0_1) ∧ w'.cell? ⟨gb209, 2, none⟩ = some (.int .u8 a0_2) ∧ w'.cell? ⟨gb209, 3, none⟩ = some (.slice A0_3 l0_3.length c0_3)) ∧ (Kd.R (Kd.int .u8) 5 w' w.heap.size (fun _ => True) s_ y212) ∧ (w'.heap[gb209]? = some (.cells #[.int .i64 a0_0, .int .i64 a0_1, .int .u8 a0_2, .slice A0_3 l0_3.length c0_3] 26 (0, 0))) ∧ (Below w.heap.size w w')) ?_ ?_
          rotate_left
          ·intro hJ2_7_13
           refine join_ (σ := Value) 7 #[true, true, true, true, true, true, true, true, false, false, false, true, true, false, false, false, false] (fun s_ => [(10, .string t211), (15, s_), (11, .string ((⟨#[35, 32, 115, 97, 108, 118, 111, 114, 10]⟩ : ByteArray) ++ t211)), (12, .string (((⟨#[35, 32, 115, 97, 108, 118, 111, 114, 10]⟩ : ByteArray) ++ t211) ++ (⟨#[32]⟩ : ByteArray)))]) (fun s_ w' => (w'.cell? ⟨gb209, 0, none⟩ = some (.int .i64 a0_0) ∧ w'.cell? ⟨gb209, 1, none⟩ = some (.int .i64 a0_1) ∧ w'.cell? ⟨gb209, 2, none⟩ = some (.int .u8 a0_2) ∧ w'.cell? ⟨gb209, 3, none⟩ = some (.slice A0_3 l0_3.length c0_3)) ∧ (Kd.R (Kd.int .u8) 5 w' w.heap.size (fun _ => True) s_ y212) ∧ (w'.heap[gb209]? = some (.cells #[.int .i64 a0_0, .int .i64 a0_1, .int .u8 a0_2, .slice A0_3 l0_3.length c0_3] 26 (0, 0))) ∧ (Below w.heap.size w w')) ?_ ?_
           rotate_left
           ·intro hJ2_7
            refine join_ (σ := Unit) 7 #[true, true, true, true, true, true, true, false, false, false, false, true, true, true, false, false, false] (fun s_ => [(10, .string t211), (21, .string t215), (11, .string ((⟨#[35, 32, 115, 97, 108, 118, 111, 114, 10]⟩ : ByteArray) ++ t211)), (12, .string (((⟨#[35, 32, 115, 97, 108, 118, 111, 114, 10]⟩ : ByteArray) ++ t211) ++ (⟨#[32]⟩ : ByteArray)))]) (fun s_ w' => (w'.cell? ⟨gb209, 0, none⟩ = some (.int .i64 a0_0) ∧ w'.cell? ⟨gb209, 1, none⟩ = some (.int .i64 a0_1) ∧ w'.cell? ⟨gb209, 2, none⟩ = some (.int .u8 a0_2) ∧ w'.cell? ⟨gb209, 3, none⟩ = some (.slice A0_3 l0_3.length c0_3)) ∧ (w'.heap[gb209]? = some (.cells #[.int .i64 a0_0, .int .i64 a0_1, .int .u8 a0_2, .slice A0_3 l0_3.length c0_3] 26 (0, 0))) ∧ (Below w.heap.size w w')) ?_ ?_
            rotate_left
            ·intro hJ2_13
             refine join_ (σ := Value) 9 #[true, true, false, false, false, true, true, true, true, false, false, true, true, false, false, false, false] (fun s_ => [(15, s_), (16, .string (strOfNums y212))]) (fun s_ w' => (w'.cell? ⟨gb209, 0, none⟩ = some (.int .i64 a0_0) ∧ w'.cell? ⟨gb209, 1, none⟩ = some (.int .i64 a0_1) ∧ w'.cell? ⟨gb209, 2, none⟩ = some (.int .u8 a0_2) ∧ w'.cell? ⟨gb209, 3, none⟩ = some (.slice A0_3 l0_3.length c0_3)) ∧ (Kd.R (Kd.int .u8) 5 w' w.heap.size (fun _ => True) s_ y212) ∧ (w'.heap[gb209]? = some (.cells #[.int .i64 a0_0, .int .i64 a0_1, .int .u8 a0_2, .slice A0_3 l0_3.length c0_3] 26 (0, 0))) ∧ (Below w.heap.size w w')) ?_ ?_
             rotate_left
             ·intro hJ7_8
              refine join_ (σ := Unit) 8 #[true, true, true, true, true, true, true, false, false, false, false, true, true, false, false, false, false] (fun s_ => [(10, .string t211), (11, .string ((⟨#[35, 32, 115, 97, 108, 118, 111, 114, 10]⟩ : ByteArray) ++ t211)), (12, .string (((⟨#[35, 32, 115, 97, 108, 118, 111, 114, 10]⟩ : ByteArray) ++ t211) ++ (⟨#[32]⟩ : ByteArray)))]) (fun s_ w' => (w'.cell? ⟨gb209, 0, none⟩ = some (.int .i64 a0_0) ∧ w'.cell? ⟨gb209, 1, none⟩ = some (.int .i64 a0_1) ∧ w'.cell? ⟨gb209, 2, none⟩ = some (.int .u8 a0_2) ∧ w'.cell? ⟨gb209, 3, none⟩ = some (.slice A0_3 l0_3.length c0_3)) ∧ (w'.heap[gb209]? = some (.cells #[.int .i64 a0_0, .int .i64 a0_1, .int .u8 a0_2, .slice A0_3 l0_3.length c0_3] 26 (0, 0))) ∧ (Below w.heap.size w w')) ?_ ?_
              rotate_left
              ·intro hJ2
               refine join_ (σ := Value) 10 #[true, true, false, false, false, true, true, true, false, false, false, true, true, false, false, false, false] (fun s_ => [(15, s_)]) (fun s_ w' => (w'.cell? ⟨gb209, 0, none⟩ = some (.int .i64 a0_0) ∧ w'.cell? ⟨gb209, 1, none⟩ = some (.int .i64 a0_1) ∧ w'.cell? ⟨gb209, 2, none⟩ = some (.int .u8 a0_2) ∧ w'.cell? ⟨gb209, 3, none⟩ = some (.slice A0_3 l0_3.length c0_3)) ∧ (Kd.R (Kd.int .u8) 5 w' w.heap.size (fun _ => True) s_ y212) ∧ (w'.heap[gb209]? = some (.cells #[.int .i64 a0_0, .int .i64 a0_1, .int .u8 a0_2, .slice A0_3 l0_3.length c0_3] 26 (0, 0))) ∧ (Below w.heap.size w w')) ?_ ?_
               rotate_left
               ·intro hJ7
                refine two_ (i := 2) (j := 7) (Ni := some 10) (Nj := some 15) #[true, true, true, false, false, true, true, false, false, false, false, true, true, false, false, false, false] #[true, true, false, false, false, true, true, true, false, false, false, true, true, false, false, false, false] rfl rfl rfl rfl (two_of HT_.out (by kernel_rfl)) (by decide) (by decide) (fun K hK => ?_) (fun K hK => ?_)
                ·skip
                 refine gq_ Tryz.func41 (by kernel_rfl) rfl #[.int .i64 a0_0] (by rfl) rfl rfl ?_
                 with_reducible refine (salvorref1_Hex.calls k a0_0 t211 _ A4.out).mono ?_
                 rintro e w' ⟨rfl, ⟨nd, rfl⟩⟩
                 refine ⟨_, rfl, ?_⟩
                 refine hK.out _ _ (k4_ BK209) (fun hHeld => ?_)
                 clear hK K
                 refine nm_ 10 ?_
                 refine pu_ 3 11 (lb_ 17 6255) rfl rfl (ao_ HT_) ?_
                 refine pu_ 4 12 (lb_ 17 6271) rfl rfl (ao_ HT_) ?_
                 exact norm_ (by first | (simp only [putAll, Act.put, List.setIfInBounds_toArray, List.set_cons_zero, List.set_cons_succ]; done) | (simp only [putAll, Act.put, List.setIfInBounds_toArray, List.set_cons_zero, List.set_cons_succ]; rfl)) (hJ2 () _ ⟨hHeld, (bq_ BK209), (bh_ HB)⟩)
                ·skip
                 refine Kd.R_lit_step (Kd.int .u8) _ 5 ?hg (N := 15) ?hd (xs := ([a0_2] : List Int)) (inner := [.int .u8 a0_2]) (ok := fun _ => True) (okp := fun _ => True) ?hr ?hp (fun _ hk => hk) trivial (Below.refl _ _) (Nat.le_refl _) (by simp) ?_; (case hd => rfl); (case hg => rfl); (case hr => first | (go_simp; done) | (go_simp; rfl)); (case hp => exact (Reps.one (show Kd.M (Kd.int .u8) _ _ _ a0_2 [.int .u8 a0_2] from rfl) (Reps.none _ _)))
                 intro v213 w16 ho17 hb hg_ hnew_
                 clear hg_ hnew_
                 (first | rw [← Ny212.out] at ho17 | (simp only [Int.reduceToNat] at ho17; rw [← Ny212.out] at ho17))
                 have HO214 := Aside0.mk (Kd.R_lower ho17 (below_size (bh_ HB)))
                 replace BK209 := bb_ BK209 hb
                 replace HB := bs_ HB hb
                 clear hb ho17
                 refine hK.out _ _ (k4_ BK209) (fun hHeld => ?_)
                 clear hK K
                 refine nm_ 15 ?_
                 exact norm_ (by first | (simp only [putAll, Act.put, List.setIfInBounds_toArray, List.set_cons_zero, List.set_cons_succ]; done) | (simp only [putAll, Act.put, List.setIfInBounds_toArray, List.set_cons_zero, List.set_cons_succ]; rfl)) (hJ7 (v213) _ ⟨hHeld, (by (with_reducible repeat (first | apply Kd.R_alloc | apply Kd.R_drewN | apply Kd.R_drew)); exact HO214.out), (bq_ BK209), (bh_ HB)⟩)
               ·skip
                rintro v213 w18 ⟨hS_, h0_, h1_, h2_⟩
                have n0_ : Aside0 (Kd.R (Kd.int .u8) 5 w18 w.heap.size (fun _ => True) v213 y212) := ⟨h0_⟩
                have n1_ : Aside0 (w18.heap[gb209]? = some (.cells #[.int .i64 a0_0, .int .i64 a0_1, .int .u8 a0_2, .slice A0_3 l0_3.length c0_3] 26 (0, 0))) := ⟨h1_⟩
                have n2_ : Aside0 (Below w.heap.size w w18) := ⟨h2_⟩
                clear BK209
                clear HB
                clear h0_ h1_ h2_
                have HO214 := n0_
                have BK209 := n1_
                have HB := n2_
                clear n0_ n1_ n2_
                have hHeld : w18.cell? ⟨gb209, 0, none⟩ = some (.int .i64 a0_0) ∧ w18.cell? ⟨gb209, 1, none⟩ = some (.int .i64 a0_1) ∧ w18.cell? ⟨gb209, 2, none⟩ = some (.int .u8 a0_2) ∧ w18.cell? ⟨gb209, 3, none⟩ = some (.slice A0_3 l0_3.length c0_3) := hS_
                refine norm_ (a' := ?_) ?_ ?_
                rotate_left
                ·simp only [putAll, Act.put, List.setIfInBounds_toArray, List.set_cons_zero, List.set_cons_succ]
                 rfl
                refine two_ (i := 2) (j := 8) (Ni := some 10) (Nj := some 16) #[true, true, true, false, false, true, true, true, false, false, false, true, true, false, false, false, false] #[true, true, false, false, false, true, true, true, true, false, false, true, true, false, false, false, false] rfl rfl rfl rfl (two_of HT_.out (by kernel_rfl)) (by decide) (by decide) (fun K hK => ?_) (fun K hK => ?_)
                ·skip
                 refine gq_ Tryz.func41 (by kernel_rfl) rfl #[.int .i64 a0_0] (by rfl) rfl rfl ?_
                 with_reducible refine (salvorref1_Hex.calls k a0_0 t211 _ A4.out).mono ?_
                 rintro e w' ⟨rfl, ⟨nd, rfl⟩⟩
                 refine ⟨_, rfl, ?_⟩
                 refine hK.out _ _ (k4_ BK209) (fun hHeld => ?_)
                 clear hK K
                 refine nm_ 10 ?_
                 refine pu_ 3 11 (lb_ 17 6383) rfl rfl (ao_ HT_) ?_
                 refine pu_ 4 12 (lb_ 17 6399) rfl rfl (ao_ HT_) ?_
                 exact norm_ (by first | (simp only [putAll, Act.put, List.setIfInBounds_toArray, List.set_cons_zero, List.set_cons_succ]; done) | (simp only [putAll, Act.put, List.setIfInBounds_toArray, List.set_cons_zero, List.set_cons_succ]; rfl)) (hJ2_7 (v213) _ ⟨hHeld, (by (with_reducible repeat (first | apply Kd.R_alloc | apply Kd.R_drewN | apply Kd.R_drew)); exact HO214.out), (bq_ BK209), (bh_ HB)⟩)
                ·skip
                 have hcv19 := own_string (P := Tryz.prog) Tryz.underlying39 Tryz.underlying5 Tryz.underlying9 (Kd.own_of_R HO214.out)
                 refine value_ (w1 := ?_) (v := ?_) (by rfl) rfl ?_ ?_
                 rotate_left 2
                 ·go_simp
                  constructor
                  ·rfl
                  ·rfl
                 clear hcv19
                 refine hK.out _ _ (k4_ BK209) (fun hHeld => ?_)
                 clear hK K
                 refine nm_ 16 ?_
                 exact norm_ (by first | (simp only [putAll, Act.put, List.setIfInBounds_toArray, List.set_cons_zero, List.set_cons_succ]; done) | (simp only [putAll, Act.put, List.setIfInBounds_toArray, List.set_cons_zero, List.set_cons_succ]; rfl)) (hJ7_8 (v213) _ ⟨hHeld, (by (with_reducible repeat (first | apply Kd.R_alloc | apply Kd.R_drewN | apply Kd.R_drew)); exact HO214.out), (bq_ BK209), (bh_ HB)⟩)
              ·skip
               rintro _ w16 ⟨hS_, h0_, h1_⟩
               have n0_ : Aside0 (w16.heap[gb209]? = some (.cells #[.int .i64 a0_0, .int .i64 a0_1, .int .u8 a0_2, .slice A0_3 l0_3.length c0_3] 26 (0, 0))) := ⟨h0_⟩
               have n1_ : Aside0 (Below w.heap.size w w16) := ⟨h1_⟩
               clear BK209
               clear HB
               clear h0_ h1_
               have BK209 := n0_
               have HB := n1_
               clear n0_ n1_
               have hHeld : w16.cell? ⟨gb209, 0, none⟩ = some (.int .i64 a0_0) ∧ w16.cell? ⟨gb209, 1, none⟩ = some (.int .i64 a0_1) ∧ w16.cell? ⟨gb209, 2, none⟩ = some (.int .u8 a0_2) ∧ w16.cell? ⟨gb209, 3, none⟩ = some (.slice A0_3 l0_3.length c0_3) := hS_
               refine norm_ (a' := ?_) ?_ ?_
               rotate_left
               ·simp only [putAll, Act.put, List.setIfInBounds_toArray, List.set_cons_zero, List.set_cons_succ]
                rfl
               refine two_ (i := 7) (j := 13) (Ni := some 15) (Nj := some 21) #[true, true, true, true, true, true, true, true, false, false, false, true, true, false, false, false, false] #[true, true, true, true, true, true, true, false, false, false, false, true, true, true, false, false, false] rfl rfl rfl rfl (two_of HT_.out (by kernel_rfl)) (by decide) (by decide) (fun K hK => ?_) (fun K hK => ?_)
               ·skip
                refine Kd.R_lit_step (Kd.int .u8) _ 5 ?hg (N := 15) ?hd (xs := ([a0_2] : List Int)) (inner := [.int .u8 a0_2]) (ok := fun _ => True) (okp := fun _ => True) ?hr ?hp (fun _ hk => hk) trivial (Below.refl _ _) (Nat.le_refl _) (by simp) ?_; (case hd => rfl); (case hg => rfl); (case hr => first | (go_simp; done) | (go_simp; rfl)); (case hp => exact (Reps.one (show Kd.M (Kd.int .u8) _ _ _ a0_2 [.int .u8 a0_2] from rfl) (Reps.none _ _)))
                intro v213 w17 ho18 hb hg_ hnew_
                clear hg_ hnew_
                (first | rw [← Ny212.out] at ho18 | (simp only [Int.reduceToNat] at ho18; rw [← Ny212.out] at ho18))
                have HO214 := Aside0.mk (Kd.R_lower ho18 (below_size (bh_ HB)))
                replace BK209 := bb_ BK209 hb
                replace HB := bs_ HB hb
                clear hb ho18
                refine hK.out _ _ (k4_ BK209) (fun hHeld => ?_)
                clear hK K
                refine nm_ 15 ?_
                exact norm_ (by first | (simp only [putAll, Act.put, List.setIfInBounds_toArray, List.set_cons_zero, List.set_cons_succ]; done) | (simp only [putAll, Act.put, List.setIfInBounds_toArray, List.set_cons_zero, List.set_cons_succ]; rfl)) (hJ2_7 (v213) _ ⟨hHeld, (by (with_reducible repeat (first | apply Kd.R_alloc | apply Kd.R_drewN | apply Kd.R_drew)); exact HO214.out), (bq_ BK209), (bh_ HB)⟩)
               ·skip
                refine gq_ Tryz.func42 (by kernel_rfl) rfl #[.int .i64 a0_1] (by rfl) rfl rfl ?_
                with_reducible refine (salvorref1_Dec.calls k a0_1 t215 _ A9.out).mono ?_
                rintro e w' ⟨rfl, ⟨nd, rfl⟩⟩
                refine ⟨_, rfl, ?_⟩
                refine hK.out _ _ (k4_ BK209) (fun hHeld => ?_)
                clear hK K
                refine nm_ 21 ?_
                exact norm_ (by first | (simp only [putAll, Act.put, List.setIfInBounds_toArray, List.set_cons_zero, List.set_cons_succ]; done) | (simp only [putAll, Act.put, List.setIfInBounds_toArray, List.set_cons_zero, List.set_cons_succ]; rfl)) (hJ2_13 () _ ⟨hHeld, (bq_ BK209), (bh_ HB)⟩)
             ·skip
              rintro v213 w19 ⟨hS_, h0_, h1_, h2_⟩
              have n0_ : Aside0 (Kd.R (Kd.int .u8) 5 w19 w.heap.size (fun _ => True) v213 y212) := ⟨h0_⟩
              have n1_ : Aside0 (w19.heap[gb209]? = some (.cells #[.int .i64 a0_0, .int .i64 a0_1, .int .u8 a0_2, .slice A0_3 l0_3.length c0_3] 26 (0, 0))) := ⟨h1_⟩
              have n2_ : Aside0 (Below w.heap.size w w19) := ⟨h2_⟩
              clear BK209
              clear HB
              clear h0_ h1_ h2_
              have HO214 := n0_
              have BK209 := n1_
              have HB := n2_
              clear n0_ n1_ n2_
              have hHeld : w19.cell? ⟨gb209, 0, none⟩ = some (.int .i64 a0_0) ∧ w19.cell? ⟨gb209, 1, none⟩ = some (.int .i64 a0_1) ∧ w19.cell? ⟨gb209, 2, none⟩ = some (.int .u8 a0_2) ∧ w19.cell? ⟨gb209, 3, none⟩ = some (.slice A0_3 l0_3.length c0_3) := hS_
              refine norm_ (a' := ?_) ?_ ?_
              rotate_left
              ·simp only [putAll, Act.put, List.setIfInBounds_toArray, List.set_cons_zero, List.set_cons_succ]
               rfl
              refine one_ (i := 2) (N := some 10) #[true, true, true, false, false, true, true, true, true, false, false, true, true, false, false, false, false] rfl rfl (one_of HT_.out (by kernel_rfl)) (by decide) (fun K hK => ?_)
              refine gq_ Tryz.func41 (by kernel_rfl) rfl #[.int .i64 a0_0] (by rfl) rfl rfl ?_
              with_reducible refine (salvorref1_Hex.calls k a0_0 t211 _ A4.out).mono ?_
              rintro e w' ⟨rfl, ⟨nd, rfl⟩⟩
              refine ⟨_, rfl, ?_⟩
              refine hK.out _ _ (k4_ BK209) (fun hHeld => ?_)
              clear hK K
              refine nm_ 10 ?_
              refine pu_ 3 11 (lb_ 17 6639) rfl rfl (ao_ HT_) ?_
              refine pu_ 4 12 (lb_ 17 6655) rfl rfl (ao_ HT_) ?_
              refine pu_ 9 17 (lb_ 17 7167) rfl rfl (ao_ HT_) ?_
              refine pu_ 10 18 (lb_ 17 8191) rfl rfl (ao_ HT_) ?_
              exact norm_ (by first | (simp only [putAll, Act.put, List.setIfInBounds_toArray, List.set_cons_zero, List.set_cons_succ]; done) | (simp only [putAll, Act.put, List.setIfInBounds_toArray, List.set_cons_zero, List.set_cons_succ]; rfl)) (hJ2_7_8 (v213) _ ⟨hHeld, (by (with_reducible repeat (first | apply Kd.R_alloc | apply Kd.R_drewN | apply Kd.R_drew)); exact HO214.out), (bq_ BK209), (bh_ HB)⟩)
            ·skip
             rintro _ w16 ⟨hS_, h0_, h1_⟩
             have n0_ : Aside0 (w16.heap[gb209]? = some (.cells #[.int .i64 a0_0, .int .i64 a0_1, .int .u8 a0_2, .slice A0_3 l0_3.length c0_3] 26 (0, 0))) := ⟨h0_⟩
             have n1_ : Aside0 (Below w.heap.size w w16) := ⟨h1_⟩
             clear BK209
             clear HB
             clear h0_ h1_
             have BK209 := n0_
             have HB := n1_
             clear n0_ n1_
             have hHeld : w16.cell? ⟨gb209, 0, none⟩ = some (.int .i64 a0_0) ∧ w16.cell? ⟨gb209, 1, none⟩ = some (.int .i64 a0_1) ∧ w16.cell? ⟨gb209, 2, none⟩ = some (.int .u8 a0_2) ∧ w16.cell? ⟨gb209, 3, none⟩ = some (.slice A0_3 l0_3.length c0_3) := hS_
             refine norm_ (a' := ?_) ?_ ?_
             rotate_left
             ·simp only [putAll, Act.put, List.setIfInBounds_toArray, List.set_cons_zero, List.set_cons_succ]
              rfl
             refine one_ (i := 7) (N := some 15) #[true, true, true, true, true, true, true, true, false, false, false, true, true, true, false, false, false] rfl rfl (one_of HT_.out (by kernel_rfl)) (by decide) (fun K hK => ?_)
             refine Kd.R_lit_step (Kd.int .u8) _ 5 ?hg (N := 15) ?hd (xs := ([a0_2] : List Int)) (inner := [.int .u8 a0_2]) (ok := fun _ => True) (okp := fun _ => True) ?hr ?hp (fun _ hk => hk) trivial (Below.refl _ _) (Nat.le_refl _) (by simp) ?_; (case hd => rfl); (case hg => rfl); (case hr => first | (go_simp; done) | (go_simp; rfl)); (case hp => exact (Reps.one (show Kd.M (Kd.int .u8) _ _ _ a0_2 [.int .u8 a0_2] from rfl) (Reps.none _ _)))
             intro v213 w17 ho18 hb hg_ hnew_
             clear hg_ hnew_
             (first | rw [← Ny212.out] at ho18 | (simp only [Int.reduceToNat] at ho18; rw [← Ny212.out] at ho18))
             have HO214 := Aside0.mk (Kd.R_lower ho18 (below_size (bh_ HB)))
             replace BK209 := bb_ BK209 hb
             replace HB := bs_ HB hb
             clear hb ho18
             refine hK.out _ _ (k4_ BK209) (fun hHeld => ?_)
             clear hK K
             refine nm_ 15 ?_
             exact norm_ (by first | (simp only [putAll, Act.put, List.setIfInBounds_toArray, List.set_cons_zero, List.set_cons_succ]; done) | (simp only [putAll, Act.put, List.setIfInBounds_toArray, List.set_cons_zero, List.set_cons_succ]; rfl)) (hJ2_7_13 (v213) _ ⟨hHeld, (by (with_reducible repeat (first | apply Kd.R_alloc | apply Kd.R_drewN | apply Kd.R_drew)); exact HO214.out), (bq_ BK209), (bh_ HB)⟩)
           ·skip
            rintro v213 w18 ⟨hS_, h0_, h1_, h2_⟩
            have n0_ : Aside0 (Kd.R (Kd.int .u8) 5 w18 w.heap.size (fun _ => True) v213 y212) := ⟨h0_⟩
            have n1_ : Aside0 (w18.heap[gb209]? = some (.cells #[.int .i64 a0_0, .int .i64 a0_1, .int .u8 a0_2, .slice A0_3 l0_3.length c0_3] 26 (0, 0))) := ⟨h1_⟩
            have n2_ : Aside0 (Below w.heap.size w w18) := ⟨h2_⟩
            clear BK209
            clear HB
            clear h0_ h1_ h2_
            have HO214 := n0_
            have BK209 := n1_
            have HB := n2_
            clear n0_ n1_ n2_
            have hHeld : w18.cell? ⟨gb209, 0, none⟩ = some (.int .i64 a0_0) ∧ w18.cell? ⟨gb209, 1, none⟩ = some (.int .i64 a0_1) ∧ w18.cell? ⟨gb209, 2, none⟩ = some (.int .u8 a0_2) ∧ w18.cell? ⟨gb209, 3, none⟩ = some (.slice A0_3 l0_3.length c0_3) := hS_
            refine norm_ (a' := ?_) ?_ ?_
            rotate_left
            ·simp only [putAll, Act.put, List.setIfInBounds_toArray, List.set_cons_zero, List.set_cons_succ]
             rfl
            refine two_ (i := 8) (j := 13) (Ni := some 16) (Nj := some 21) #[true, true, true, true, true, true, true, true, true, false, false, true, true, false, false, false, false] #[true, true, true, true, true, true, true, true, false, false, false, true, true, true, false, false, false] rfl rfl rfl rfl (two_of HT_.out (by kernel_rfl)) (by decide) (by decide) (fun K hK => ?_) (fun K hK => ?_)
            ·skip
             have hcv19 := own_string (P := Tryz.prog) Tryz.underlying39 Tryz.underlying5 Tryz.underlying9 (Kd.own_of_R HO214.out)
             refine value_ (w1 := ?_) (v := ?_) (by rfl) rfl ?_ ?_
             rotate_left 2
             ·go_simp
              constructor
              ·rfl
              ·rfl
             clear hcv19
             refine hK.out _ _ (k4_ BK209) (fun hHeld => ?_)
             clear hK K
             refine nm_ 16 ?_
             refine pu_ 9 17 (lb_ 17 7167) rfl rfl (ao_ HT_) ?_
             refine pu_ 10 18 (lb_ 17 8191) rfl rfl (ao_ HT_) ?_
             exact norm_ (by first | (simp only [putAll, Act.put, List.setIfInBounds_toArray, List.set_cons_zero, List.set_cons_succ]; done) | (simp only [putAll, Act.put, List.setIfInBounds_toArray, List.set_cons_zero, List.set_cons_succ]; rfl)) (hJ2_7_8 (v213) _ ⟨hHeld, (by (with_reducible repeat (first | apply Kd.R_alloc | apply Kd.R_drewN | apply Kd.R_drew)); exact HO214.out), (bq_ BK209), (bh_ HB)⟩)
            ·skip
             refine gq_ Tryz.func42 (by kernel_rfl) rfl #[.int .i64 a0_1] (by rfl) rfl rfl ?_
             with_reducible refine (salvorref1_Dec.calls k a0_1 t215 _ A9.out).mono ?_
             rintro e w' ⟨rfl, ⟨nd, rfl⟩⟩
             refine ⟨_, rfl, ?_⟩
             refine hK.out _ _ (k4_ BK209) (fun hHeld => ?_)
             clear hK K
             refine nm_ 21 ?_
             exact norm_ (by first | (simp only [putAll, Act.put, List.setIfInBounds_toArray, List.set_cons_zero, List.set_cons_succ]; done) | (simp only [putAll, Act.put, List.setIfInBounds_toArray, List.set_cons_zero, List.set_cons_succ]; rfl)) (hJ2_7_13 (v213) _ ⟨hHeld, (by (with_reducible repeat (first | apply Kd.R_alloc | apply Kd.R_drewN | apply Kd.R_drew)); exact HO214.out), (bq_ BK209), (bh_ HB)⟩)
          ·skip
           rintro v213 w18 ⟨hS_, h0_, h1_, h2_⟩
           have n0_ : Aside0 (Kd.R (Kd.int .u8) 5 w18 w.heap.size (fun _ => True) v213 y212) := ⟨h0_⟩
           have n1_ : Aside0 (w18.heap[gb209]? = some (.cells #[.int .i64 a0_0, .int .i64 a0_1, .int .u8 a0_2, .slice A0_3 l0_3.length c0_3] 26 (0, 0))) := ⟨h1_⟩
           have n2_ : Aside0 (Below w.heap.size w w18) := ⟨h2_⟩
           clear BK209
           clear HB
           clear h0_ h1_ h2_
           have HO214 := n0_
           have BK209 := n1_
           have HB := n2_
           clear n0_ n1_ n2_
           have hHeld : w18.cell? ⟨gb209, 0, none⟩ = some (.int .i64 a0_0) ∧ w18.cell? ⟨gb209, 1, none⟩ = some (.int .i64 a0_1) ∧ w18.cell? ⟨gb209, 2, none⟩ = some (.int .u8 a0_2) ∧ w18.cell? ⟨gb209, 3, none⟩ = some (.slice A0_3 l0_3.length c0_3) := hS_
           refine norm_ (a' := ?_) ?_ ?_
           rotate_left
           ·simp only [putAll, Act.put, List.setIfInBounds_toArray, List.set_cons_zero, List.set_cons_succ]
            rfl
           refine one_ (i := 8) (N := some 16) #[true, true, true, true, true, true, true, true, true, false, false, true, true, true, false, false, false] rfl rfl (one_of HT_.out (by kernel_rfl)) (by decide) (fun K hK => ?_)
           have hcv19 := own_string (P := Tryz.prog) Tryz.underlying39 Tryz.underlying5 Tryz.underlying9 (Kd.own_of_R HO214.out)
           refine value_ (w1 := ?_) (v := ?_) (by rfl) rfl ?_ ?_
           rotate_left 2
           ·go_simp
            constructor
            ·rfl
            ·rfl
           clear hcv19
           refine hK.out _ _ (k4_ BK209) (fun hHeld => ?_)
           clear hK K
           refine nm_ 16 ?_
           refine pu_ 9 17 (lb_ 17 15359) rfl rfl (ao_ HT_) ?_
           refine pu_ 10 18 (lb_ 17 16383) rfl rfl (ao_ HT_) ?_
           exact norm_ (by first | (simp only [putAll, Act.put, List.setIfInBounds_toArray, List.set_cons_zero, List.set_cons_succ]; done) | (simp only [putAll, Act.put, List.setIfInBounds_toArray, List.set_cons_zero, List.set_cons_succ]; rfl)) (hJ2_7_8_13 (v213) _ ⟨hHeld, (by (with_reducible repeat (first | apply Kd.R_alloc | apply Kd.R_drewN | apply Kd.R_drew)); exact HO214.out), (bq_ BK209), (bh_ HB)⟩)
         ·skip
          rintro v213 w19 ⟨hS_, h0_, h1_, h2_⟩
          have n0_ : Aside0 (Kd.R (Kd.int .u8) 5 w19 w.heap.size (fun _ => True) v213 y212) := ⟨h0_⟩
          have n1_ : Aside0 (w19.heap[gb209]? = some (.cells #[.int .i64 a0_0, .int .i64 a0_1, .int .u8 a0_2, .slice A0_3 l0_3.length c0_3] 26 (0, 0))) := ⟨h1_⟩
          have n2_ : Aside0 (Below w.heap.size w w19) := ⟨h2_⟩
          clear BK209
          clear HB
          clear h0_ h1_ h2_
          have HO214 := n0_
          have BK209 := n1_
          have HB := n2_
          clear n0_ n1_ n2_
          have hHeld : w19.cell? ⟨gb209, 0, none⟩ = some (.int .i64 a0_0) ∧ w19.cell? ⟨gb209, 1, none⟩ = some (.int .i64 a0_1) ∧ w19.cell? ⟨gb209, 2, none⟩ = some (.int .u8 a0_2) ∧ w19.cell? ⟨gb209, 3, none⟩ = some (.slice A0_3 l0_3.length c0_3) := hS_
          refine norm_ (a' := ?_) ?_ ?_
          rotate_left
          ·simp only [putAll, Act.put, List.setIfInBounds_toArray, List.set_cons_zero, List.set_cons_succ]
           rfl
          refine one_ (i := 13) (N := some 21) #[true, true, true, true, true, true, true, true, true, true, true, true, true, true, false, false, false] rfl rfl (one_of HT_.out (by kernel_rfl)) (by decide) (fun K hK => ?_)
          refine gq_ Tryz.func42 (by kernel_rfl) rfl #[.int .i64 a0_1] (by rfl) rfl rfl ?_
          with_reducible refine (salvorref1_Dec.calls k a0_1 t215 _ A9.out).mono ?_
          rintro e w' ⟨rfl, ⟨nd, rfl⟩⟩
          refine ⟨_, rfl, ?_⟩
          refine hK.out _ _ (k4_ BK209) (fun hHeld => ?_)
          clear hK K
          refine nm_ 21 ?_
          exact norm_ (by first | (simp only [putAll, Act.put, List.setIfInBounds_toArray, List.set_cons_zero, List.set_cons_succ]; done) | (simp only [putAll, Act.put, List.setIfInBounds_toArray, List.set_cons_zero, List.set_cons_succ]; rfl)) (hJ2_7_8_13 (v213) _ ⟨hHeld, (by (with_reducible repeat (first | apply Kd.R_alloc | apply Kd.R_drewN | apply Kd.R_drew)); exact HO214.out), (bq_ BK209), (bh_ HB)⟩)
        rintro v213 w19 ⟨hS_, h0_, h1_, h2_⟩
        have n0_ : Aside0 (Kd.R (Kd.int .u8) 5 w19 w.heap.size (fun _ => True) v213 y212) := ⟨h0_⟩
        have n1_ : Aside0 (w19.heap[gb209]? = some (.cells #[.int .i64 a0_0, .int .i64 a0_1, .int .u8 a0_2, .slice A0_3 l0_3.length c0_3] 26 (0, 0))) := ⟨h1_⟩
        have n2_ : Aside0 (Below w.heap.size w w19) := ⟨h2_⟩
        clear BK209
        clear HB
        clear h0_ h1_ h2_
        have HO214 := n0_
        have BK209 := n1_
        have HB := n2_
        clear n0_ n1_ n2_
        have hHeld : w19.cell? ⟨gb209, 0, none⟩ = some (.int .i64 a0_0) ∧ w19.cell? ⟨gb209, 1, none⟩ = some (.int .i64 a0_1) ∧ w19.cell? ⟨gb209, 2, none⟩ = some (.int .u8 a0_2) ∧ w19.cell? ⟨gb209, 3, none⟩ = some (.slice A0_3 l0_3.length c0_3) := hS_
        refine norm_ (a' := ?_) ?_ ?_
        rotate_left
        ·simp only [putAll, Act.put, List.setIfInBounds_toArray, List.set_cons_zero, List.set_cons_succ]
         rfl
        refine pu_ 14 22 (lb_ 17 32767) rfl rfl (ao_ HT_) ?_
        refine pu_ 15 23 (lb_ 17 65535) rfl rfl (ao_ HT_) ?_
        refine pu_ 16 3 (lb_ 17 131071) rfl rfl (ao_ HT_) ?_
        refine done_ (done_of HT_.out (by kernel_rfl)) ?_
        try go_wp2
        go_loopg [3, 4] k (fun kq v3 v4 w' => ∃ (x3_1 : ByteArray) (x4_1 : Int), v3 = .string x3_1 ∧ v4 = .int .i64 x4_1 ∧ Aside0 (salvorref16_Print.l0 kq x3_1 x4_1 a0_0 a0_1 a0_2 l0_3 = some r) ∧ Aside0 (kq ≤ k) ∧ Aside0 (w'.heap[gb209]? = some (.cells #[.int .i64 a0_0, .int .i64 a0_1, .int .u8 a0_2, (.slice A0_3 l0_3.length c0_3)] 26 (0, 0))) ∧ Aside0 (Below w.heap.size w w'))
        case atStart => exact ⟨(((((((⟨#[35, 32, 115, 97, 108, 118, 111, 114, 10]⟩ : ByteArray) ++ t211) ++ (⟨#[32]⟩ : ByteArray)) ++ (strOfNums y212)) ++ (⟨#[32]⟩ : ByteArray)) ++ t215) ++ (⟨#[10]⟩ : ByteArray)), (0), (by first | rfl | (simp; done) | (simp [*]; done)), (by first | rfl | (simp; done) | (simp [*]; done)), H', ⟨Nat.le_refl _⟩, ⟨bq_ BK209⟩, ⟨bh_ HB⟩⟩
        case round =>
         clear H'
         try clear c1
         try clear hcv1
         try clear p2
         try clear c3
         try clear c4
         try clear c5
         try clear c5b0
         try clear c5b1
         try clear c5b2
         try clear c6
         try clear c6b0
         try clear c6b1
         try clear c6b2
         try clear c7
         try clear c7b0
         try clear c7b1
         try clear c7b2
         try clear c8
         try clear c8b0
         try clear c8b1
         try clear c8b2
         try clear c10
         try clear c10b0
         try clear c10b1
         try clear c10b2
         try clear c11
         try clear c11b0
         try clear c11b1
         try clear c11b2
         try clear c15
         try clear c16
         try clear hcv19
         try clear hcz13_0 hcz13_1 hcz13_2 hcz13_3 hfz13_0 hfz13_1 hfz13_2 hfz13_3
         obtain ⟨x3_1, x4_1, rfl, rfl, HA, HK1, BK209, HB⟩ := hrel
         cases gk with
         | zero => exact absurd HA.out (by simp [salvorref16_Print.l0])
         | succ k1 =>
          have H := HA.out
          clear HA
          simp only [salvorref16_Print.l0] at H
          by_cases c20 : x4_1 < (l0_3.length : Int)
          ·rw [if_pos c20] at H
           have c20b0 : decide (x4_1 < (l0_3.length : Int)) = true := decide_eq_true c20
           clear c20
           by_cases c21 : 0 ≤ x4_1
           ·rw [if_pos c21] at H
            have c21b0 : decide (0 ≤ x4_1) = true := decide_eq_true c21
            clear c21
            replace H := Option.bind_eq_some_iff.mp H
            obtain ⟨t217, A220, H⟩ := H
            replace H : (if x3_1.size + t217.size ≤ 9223372036854775807 then (if (x3_1 ++ t217).size + 1 ≤ 9223372036854775807 then ((salvorref1_Hex.f k1 ((rd_T23 l0_3 x4_1).f1)).bind fun t219 => (if ((x3_1 ++ t217) ++ (⟨#[32]⟩ : ByteArray)).size + t219.size ≤ 9223372036854775807 then (if (((x3_1 ++ t217) ++ (⟨#[32]⟩ : ByteArray)) ++ t219).size + 1 ≤ 9223372036854775807 then ((some (([(rd_T23 l0_3 x4_1).f2] : List Int) : List Int)).bind fun y221 => (if ((((x3_1 ++ t217) ++ (⟨#[32]⟩ : ByteArray)) ++ t219) ++ (⟨#[32]⟩ : ByteArray)).size + (strOfNums y221).size ≤ 9223372036854775807 then (if (((((x3_1 ++ t217) ++ (⟨#[32]⟩ : ByteArray)) ++ t219) ++ (⟨#[32]⟩ : ByteArray)) ++ (strOfNums y221)).size + 1 ≤ 9223372036854775807 then (if (((((((x3_1 ++ t217) ++ (⟨#[32]⟩ : ByteArray)) ++ t219) ++ (⟨#[32]⟩ : ByteArray)) ++ (strOfNums y221)) ++ (⟨#[10]⟩ : ByteArray)).size : Int) > 40000 then (some (⟨#[]⟩ : ByteArray)) else (salvorref16_Print.l0 k1 ((((((x3_1 ++ t217) ++ (⟨#[32]⟩ : ByteArray)) ++ t219) ++ (⟨#[32]⟩ : ByteArray)) ++ (strOfNums y221)) ++ (⟨#[10]⟩ : ByteArray)) (wrap64 (x4_1 + 1)) a0_0 a0_1 a0_2 l0_3)) else (none)) else (none))) else (none)) else (none))) else (none)) else (none)) = some r := H
            have A22 := Aside0.mk A220
            clear A220
            by_cases c23 : x3_1.size + t217.size ≤ 9223372036854775807
            ·rw [if_pos c23] at H
             have c23b0 := eq_true c23
             have c23b1 : decide (x3_1.size + t217.size ≤ 9223372036854775807) = true := decide_eq_true c23
             try have c23b2 : (9223372036854775807 < x3_1.size + t217.size) = False := eq_false (Nat.not_lt.2 c23)
             by_cases c24 : (x3_1 ++ t217).size + 1 ≤ 9223372036854775807
             ·rw [if_pos c24] at H
              have c24b0 := eq_true c24
              have c24b1 : decide ((x3_1 ++ t217).size + 1 ≤ 9223372036854775807) = true := decide_eq_true c24
              try have c24b2 : (9223372036854775807 < (x3_1 ++ t217).size + 1) = False := eq_false (Nat.not_lt.2 c24)
              try have c24b3 : (9223372036854775807 < x3_1.size + t217.size + 1) = False := eq_false (Nat.not_lt.2 (by have h_ := c24; simp only [ByteArray.size_append] at h_; exact h_))
              replace H := Option.bind_eq_some_iff.mp H
              obtain ⟨t219, A250, H⟩ := H
              replace H : (if ((x3_1 ++ t217) ++ (⟨#[32]⟩ : ByteArray)).size + t219.size ≤ 9223372036854775807 then (if (((x3_1 ++ t217) ++ (⟨#[32]⟩ : ByteArray)) ++ t219).size + 1 ≤ 9223372036854775807 then ((some (([(rd_T23 l0_3 x4_1).f2] : List Int) : List Int)).bind fun y221 => (if ((((x3_1 ++ t217) ++ (⟨#[32]⟩ : ByteArray)) ++ t219) ++ (⟨#[32]⟩ : ByteArray)).size + (strOfNums y221).size ≤ 9223372036854775807 then (if (((((x3_1 ++ t217) ++ (⟨#[32]⟩ : ByteArray)) ++ t219) ++ (⟨#[32]⟩ : ByteArray)) ++ (strOfNums y221)).size + 1 ≤ 9223372036854775807 then (if (((((((x3_1 ++ t217) ++ (⟨#[32]⟩ : ByteArray)) ++ t219) ++ (⟨#[32]⟩ : ByteArray)) ++ (strOfNums y221)) ++ (⟨#[10]⟩ : ByteArray)).size : Int) > 40000 then (some (⟨#[]⟩ : ByteArray)) else (salvorref16_Print.l0 k1 ((((((x3_1 ++ t217) ++ (⟨#[32]⟩ : ByteArray)) ++ t219) ++ (⟨#[32]⟩ : ByteArray)) ++ (strOfNums y221)) ++ (⟨#[10]⟩ : ByteArray)) (wrap64 (x4_1 + 1)) a0_0 a0_1 a0_2 l0_3)) else (none)) else (none))) else (none)) else (none)) = some r := H
              have A25 := Aside0.mk A250
              clear A250
              by_cases c26 : ((x3_1 ++ t217) ++ (⟨#[32]⟩ : ByteArray)).size + t219.size ≤ 9223372036854775807
              ·rw [if_pos c26] at H
               have c26b0 := eq_true c26
               have c26b1 : decide (((x3_1 ++ t217) ++ (⟨#[32]⟩ : ByteArray)).size + t219.size ≤ 9223372036854775807) = true := decide_eq_true c26
               try have c26b2 : (9223372036854775807 < ((x3_1 ++ t217) ++ (⟨#[32]⟩ : ByteArray)).size + t219.size) = False := eq_false (Nat.not_lt.2 c26)
               try have c26b3 : (9223372036854775807 < x3_1.size + t217.size + 1 + t219.size) = False := eq_false (Nat.not_lt.2 (by have h_ := c26; simp only [ByteArray.size_append] at h_; exact h_))
               by_cases c27 : (((x3_1 ++ t217) ++ (⟨#[32]⟩ : ByteArray)) ++ t219).size + 1 ≤ 9223372036854775807
               ·rw [if_pos c27] at H
                have c27b0 := eq_true c27
                have c27b1 : decide ((((x3_1 ++ t217) ++ (⟨#[32]⟩ : ByteArray)) ++ t219).size + 1 ≤ 9223372036854775807) = true := decide_eq_true c27
                try have c27b2 : (9223372036854775807 < (((x3_1 ++ t217) ++ (⟨#[32]⟩ : ByteArray)) ++ t219).size + 1) = False := eq_false (Nat.not_lt.2 c27)
                try have c27b3 : (9223372036854775807 < x3_1.size + t217.size + 1 + t219.size + 1) = False := eq_false (Nat.not_lt.2 (by have h_ := c27; simp only [ByteArray.size_append] at h_; exact h_))
                obtain ⟨y221, hy221⟩ : ∃ y_ : List Int, y_ = (([(rd_T23 l0_3 x4_1).f2] : List Int)) := ⟨_, rfl⟩
                replace H : (if ((((x3_1 ++ t217) ++ (⟨#[32]⟩ : ByteArray)) ++ t219) ++ (⟨#[32]⟩ : ByteArray)).size + (strOfNums y221).size ≤ 9223372036854775807 then (if (((((x3_1 ++ t217) ++ (⟨#[32]⟩ : ByteArray)) ++ t219) ++ (⟨#[32]⟩ : ByteArray)) ++ (strOfNums y221)).size + 1 ≤ 9223372036854775807 then (if (((((((x3_1 ++ t217) ++ (⟨#[32]⟩ : ByteArray)) ++ t219) ++ (⟨#[32]⟩ : ByteArray)) ++ (strOfNums y221)) ++ (⟨#[10]⟩ : ByteArray)).size : Int) > 40000 then (some (⟨#[]⟩ : ByteArray)) else (salvorref16_Print.l0 k1 ((((((x3_1 ++ t217) ++ (⟨#[32]⟩ : ByteArray)) ++ t219) ++ (⟨#[32]⟩ : ByteArray)) ++ (strOfNums y221)) ++ (⟨#[10]⟩ : ByteArray)) (wrap64 (x4_1 + 1)) a0_0 a0_1 a0_2 l0_3)) else (none)) else (none)) = some r := by first | (rw [hy221]; with_reducible exact H) | (have H2_ := (Option.bind_some _ _).symm.trans H; rw [hy221]; with_reducible exact H2_) | (have H2_ := (Option.bind_some _ _).symm.trans H; with_reducible exact H2_) | with_reducible exact H | (rw [hy221]; exact H) | exact H
                have Ny221 := Aside0.mk hy221
                clear hy221
                by_cases c28 : ((((x3_1 ++ t217) ++ (⟨#[32]⟩ : ByteArray)) ++ t219) ++ (⟨#[32]⟩ : ByteArray)).size + (strOfNums y221).size ≤ 9223372036854775807
                ·rw [if_pos c28] at H
                 have c28b0 := eq_true c28
                 have c28b1 : decide (((((x3_1 ++ t217) ++ (⟨#[32]⟩ : ByteArray)) ++ t219) ++ (⟨#[32]⟩ : ByteArray)).size + (strOfNums y221).size ≤ 9223372036854775807) = true := decide_eq_true c28
                 try have c28b2 : (9223372036854775807 < ((((x3_1 ++ t217) ++ (⟨#[32]⟩ : ByteArray)) ++ t219) ++ (⟨#[32]⟩ : ByteArray)).size + (strOfNums y221).size) = False := eq_false (Nat.not_lt.2 c28)
                 try have c28b3 : (9223372036854775807 < x3_1.size + t217.size + 1 + t219.size + 1 + (strOfNums y221).size) = False := eq_false (Nat.not_lt.2 (by have h_ := c28; simp only [ByteArray.size_append] at h_; exact h_))
                 by_cases c29 : (((((x3_1 ++ t217) ++ (⟨#[32]⟩ : ByteArray)) ++ t219) ++ (⟨#[32]⟩ : ByteArray)) ++ (strOfNums y221)).size + 1 ≤ 9223372036854775807
                 ·rw [if_pos c29] at H
                  have c29b0 := eq_true c29
                  have c29b1 : decide ((((((x3_1 ++ t217) ++ (⟨#[32]⟩ : ByteArray)) ++ t219) ++ (⟨#[32]⟩ : ByteArray)) ++ (strOfNums y221)).size + 1 ≤ 9223372036854775807) = true := decide_eq_true c29
                  try have c29b2 : (9223372036854775807 < (((((x3_1 ++ t217) ++ (⟨#[32]⟩ : ByteArray)) ++ t219) ++ (⟨#[32]⟩ : ByteArray)) ++ (strOfNums y221)).size + 1) = False := eq_false (Nat.not_lt.2 c29)
                  try have c29b3 : (9223372036854775807 < x3_1.size + t217.size + 1 + t219.size + 1 + (strOfNums y221).size + 1) = False := eq_false (Nat.not_lt.2 (by have h_ := c29; simp only [ByteArray.size_append] at h_; exact h_))
                  by_cases c30 : (((((((x3_1 ++ t217) ++ (⟨#[32]⟩ : ByteArray)) ++ t219) ++ (⟨#[32]⟩ : ByteArray)) ++ (strOfNums y221)) ++ (⟨#[10]⟩ : ByteArray)).size : Int) > 40000
                  ·rw [if_pos c30] at H
                   have c30b0 : decide (40000 < (((((((x3_1 ++ t217) ++ (⟨#[32]⟩ : ByteArray)) ++ t219) ++ (⟨#[32]⟩ : ByteArray)) ++ (strOfNums y221)) ++ (⟨#[10]⟩ : ByteArray)).size : Int)) = true := decide_eq_true c30
                   have c30b1 : decide (40000 < ((((((x3_1 ++ t217) ++ (⟨#[32]⟩ : ByteArray)) ++ t219) ++ (⟨#[32]⟩ : ByteArray)) ++ (strOfNums y221)) ++ (⟨#[10]⟩ : ByteArray)).size) = true := decide_eq_true (by omega)
                   clear c30
                   obtain rfl := Option.some.inj H
                   obtain ⟨hcz31_0, hcz31_1, hcz31_2, hcz31_3, hfz31_0, hfz31_1, hfz31_2, hfz31_3⟩ := c4_ BK209
                   try go_wp2
                   replace BK209 := Aside0.mk (blk_drew BK209.out)
                   replace HB := Aside0.mk (below_drew1 HB.out)
                   have p216 : 0 ≤ (x4_1 : Int) := of_decide_eq_true (by first | (with_reducible assumption) | assumption)
                   have q216 : x4_1 < (l0_3.length : Int) := of_decide_eq_true (by first | (with_reducible assumption) | assumption)
                   obtain ⟨ad216, e216, hx216_0, hx216_1, hx216_2⟩ := at_T23 HR0_3.out x4_1 p216 q216
                   have hw216_2 := hx216_2
                   have hw216_1 := hx216_1
                   have hw216_0 := hx216_0
                   cases e216
                   replace hx216_0 := (HB.out.cell (World.block_lt_of_cell? w _ hx216_0)).trans hx216_0
                   replace hx216_1 := (HB.out.cell (World.block_lt_of_cell? w _ hx216_1)).trans hx216_1
                   replace hx216_2 := (HB.out.cell (World.block_lt_of_cell? w _ hx216_2)).trans hx216_2
                   replace p216 := eq_true p216
                   replace q216 := eq_true q216
                   have p218 : 0 ≤ (x4_1 : Int) := of_decide_eq_true (by first | (with_reducible assumption) | assumption)
                   have q218 : x4_1 < (l0_3.length : Int) := of_decide_eq_true (by first | (with_reducible assumption) | assumption)
                   obtain ⟨ad218, e218, hx218_0, hx218_1, hx218_2⟩ := at_T23 HR0_3.out x4_1 p218 q218
                   have hw218_2 := hx218_2
                   have hw218_1 := hx218_1
                   have hw218_0 := hx218_0
                   obtain rfl : ad216 = ad218 := (by injection e218)
                   replace hx218_0 := (HB.out.cell (World.block_lt_of_cell? w _ hx218_0)).trans hx218_0
                   replace hx218_1 := (HB.out.cell (World.block_lt_of_cell? w _ hx218_1)).trans hx218_1
                   replace hx218_2 := (HB.out.cell (World.block_lt_of_cell? w _ hx218_2)).trans hx218_2
                   replace p218 := eq_true p218
                   replace q218 := eq_true q218
                   have p220 : 0 ≤ (x4_1 : Int) := of_decide_eq_true (by first | (with_reducible assumption) | assumption)
                   have q220 : x4_1 < (l0_3.length : Int) := of_decide_eq_true (by first | (with_reducible assumption) | assumption)
                   obtain ⟨ad220, e220, hx220_0, hx220_1, hx220_2⟩ := at_T23 HR0_3.out x4_1 p220 q220
                   have hw220_2 := hx220_2
                   have hw220_1 := hx220_1
                   have hw220_0 := hx220_0
                   obtain rfl : ad216 = ad220 := (by injection e220)
                   replace hx220_0 := (HB.out.cell (World.block_lt_of_cell? w _ hx220_0)).trans hx220_0
                   replace hx220_1 := (HB.out.cell (World.block_lt_of_cell? w _ hx220_1)).trans hx220_1
                   replace hx220_2 := (HB.out.cell (World.block_lt_of_cell? w _ hx220_2)).trans hx220_2
                   replace p220 := eq_true p220
                   replace q220 := eq_true q220
                   refine start_ (n := 30) (S := fun w' => w'.cell? ⟨gb209, 0, none⟩ = some (.int .i64 a0_0) ∧ w'.cell? ⟨gb209, 1, none⟩ = some (.int .i64 a0_1) ∧ w'.cell? ⟨gb209, 2, none⟩ = some (.int .u8 a0_2) ∧ w'.cell? ⟨gb209, 3, none⟩ = some (.slice (some ad216) l0_3.length c0_3) ∧ w'.cell? (ad216.add ((x4_1).toNat * 3)) = some (.int .i64 ((rd_T23 l0_3 x4_1).f0)) ∧ w'.cell? ⟨(ad216.add ((x4_1).toNat * 3)).block, (ad216.add ((x4_1).toNat * 3)).off + 1, none⟩ = some (.int .i64 ((rd_T23 l0_3 x4_1).f1)) ∧ w'.cell? ⟨(ad216.add ((x4_1).toNat * 3)).block, (ad216.add ((x4_1).toNat * 3)).off + 2, none⟩ = some (.int .u8 ((rd_T23 l0_3 x4_1).f2)) ∧ w'.cell? (ad216.add ((x4_1).toNat * 3)) = some (.int .i64 ((rd_T23 l0_3 x4_1).f0)) ∧ w'.cell? ⟨(ad216.add ((x4_1).toNat * 3)).block, (ad216.add ((x4_1).toNat * 3)).off + 1, none⟩ = some (.int .i64 ((rd_T23 l0_3 x4_1).f1)) ∧ w'.cell? ⟨(ad216.add ((x4_1).toNat * 3)).block, (ad216.add ((x4_1).toNat * 3)).off + 2, none⟩ = some (.int .u8 ((rd_T23 l0_3 x4_1).f2)) ∧ w'.cell? (ad216.add ((x4_1).toNat * 3)) = some (.int .i64 ((rd_T23 l0_3 x4_1).f0)) ∧ w'.cell? ⟨(ad216.add ((x4_1).toNat * 3)).block, (ad216.add ((x4_1).toNat * 3)).off + 1, none⟩ = some (.int .i64 ((rd_T23 l0_3 x4_1).f1)) ∧ w'.cell? ⟨(ad216.add ((x4_1).toNat * 3)).block, (ad216.add ((x4_1).toNat * 3)).off + 2, none⟩ = some (.int .u8 ((rd_T23 l0_3 x4_1).f2))) (ds := []) #[false, false, false, false, false, false, false, false, false, false, false, false, false, false, false, false, false, false, false, false, false, false, false, false, false, false, false, false, false, false] (by kernel_rfl) rfl rfl ⟨(blk_cell BK209.out 0).trans rfl, (blk_cell BK209.out 1).trans rfl, (blk_cell BK209.out 2).trans rfl, (blk_cell BK209.out 3).trans rfl, ((HB.out.cell (World.block_lt_of_cell? w _ hw216_0)).trans hw216_0), ((HB.out.cell (World.block_lt_of_cell? w _ hw216_1)).trans hw216_1), ((HB.out.cell (World.block_lt_of_cell? w _ hw216_2)).trans hw216_2), ((HB.out.cell (World.block_lt_of_cell? w _ hw218_0)).trans hw218_0), ((HB.out.cell (World.block_lt_of_cell? w _ hw218_1)).trans hw218_1), ((HB.out.cell (World.block_lt_of_cell? w _ hw218_2)).trans hw218_2), ((HB.out.cell (World.block_lt_of_cell? w _ hw220_0)).trans hw220_0), ((HB.out.cell (World.block_lt_of_cell? w _ hw220_1)).trans hw220_1), ((HB.out.cell (World.block_lt_of_cell? w _ hw220_2)).trans hw220_2)⟩ (fun hHeld => ?_); refine with_tabW salvorref16_Print.tab7 salvorref16_Print.bits7 (fun HT_ HW_ => ?_)
                   generalize wr.drew = w32 at BK209 HB hx216_0 hx216_1 hx216_2 hx218_0 hx218_1 hx218_2 hx220_0 hx220_1 hx220_2 hHeld ⊢
                   refine pu_ 0 31 (lb_ 30 1) rfl rfl (ao_ HT_) ?_
                   refine pu_ 1 32 (lb_ 30 3) rfl rfl (ao_ HT_) ?_
                   refine pu_ 3 34 (lb_ 30 11) rfl rfl (ao_ HT_) ?_
                   refine pu_ 10 41 (lb_ 30 1035) rfl rfl (ao_ HT_) ?_
                   refine pu_ 12 43 (lb_ 30 5131) rfl rfl (ao_ HT_) ?_
                   refine pu_ 19 50 (lb_ 30 529419) rfl rfl (ao_ HT_) ?_
                   refine pu_ 21 52 (lb_ 30 2626571) rfl rfl (ao_ HT_) ?_
                   refine tk_ 2 33 (lb_ 30 2626575) rfl rfl (take_ofW HT_.out HW_.out (by kernel_rfl)) hHeld ?_
                   refine pu_ 4 35 (lb_ 30 2626591) rfl rfl (ao_ HT_) ?_
                   refine pu_ 5 36 (lb_ 30 2626623) rfl rfl (ao_ HT_) ?_
                   refine tk_ 6 37 (lb_ 30 2626687) rfl rfl (take_ofW HT_.out HW_.out (by kernel_rfl)) hHeld ?_
                   refine tk_ 11 42 (lb_ 30 2628735) rfl rfl (take_ofW HT_.out HW_.out (by kernel_rfl)) hHeld ?_
                   refine pu_ 13 44 (lb_ 30 2636927) rfl rfl (ao_ HT_) ?_
                   refine pu_ 14 45 (lb_ 30 2653311) rfl rfl (ao_ HT_) ?_
                   refine tk_ 15 46 (lb_ 30 2686079) rfl rfl (take_ofW HT_.out HW_.out (by kernel_rfl)) hHeld ?_
                   refine tk_ 20 51 (lb_ 30 3734655) rfl rfl (take_ofW HT_.out HW_.out (by kernel_rfl)) hHeld ?_
                   refine pu_ 22 53 (lb_ 30 7928959) rfl rfl (ao_ HT_) ?_
                   refine pu_ 23 54 (lb_ 30 16317567) rfl rfl (ao_ HT_) ?_
                   refine tk_ 24 55 (lb_ 30 33094783) rfl rfl (take_ofW HT_.out HW_.out (by kernel_rfl)) hHeld ?_
                   refine join_ (σ := Value) 3 #[true, true, true, true, true, true, true, true, true, true, true, true, true, true, true, true, true, true, true, true, true, true, true, true, true, true, true, false, false, false] (fun s_ => [(38, .string t217), (47, .string t219), (56, s_), (57, .string (strOfNums y221)), (39, .string (x3_1 ++ t217)), (40, .string ((x3_1 ++ t217) ++ (⟨#[32]⟩ : ByteArray))), (48, .string (((x3_1 ++ t217) ++ (⟨#[32]⟩ : ByteArray)) ++ t219)), (49, .string ((((x3_1 ++ t217) ++ (⟨#[32]⟩ : ByteArray)) ++ t219) ++ (⟨#[32]⟩ : ByteArray)))]) (fun s_ w' => (w'.cell? ⟨gb209, 0, none⟩ = some (.int .i64 a0_0) ∧ w'.cell? ⟨gb209, 1, none⟩ = some (.int .i64 a0_1) ∧ w'.cell? ⟨gb209, 2, none⟩ = some (.int .u8 a0_2) ∧ w'.cell? ⟨gb209, 3, none⟩ = some (.slice (some ad216) l0_3.length c0_3) ∧ w'.cell? (ad216.add ((x4_1).toNat * 3)) = some (.int .i64 ((rd_T23 l0_3 x4_1).f0)) ∧ w'.cell? ⟨(ad216.add ((x4_1).toNat * 3)).block, (ad216.add ((x4_1).toNat * 3)).off + 1, none⟩ = some (.int .i64 ((rd_T23 l0_3 x4_1).f1)) ∧ w'.cell? ⟨(ad216.add ((x4_1).toNat * 3)).block, (ad216.add ((x4_1).toNat * 3)).off + 2, none⟩ = some (.int .u8 ((rd_T23 l0_3 x4_1).f2)) ∧ w'.cell? (ad216.add ((x4_1).toNat * 3)) = some (.int .i64 ((rd_T23 l0_3 x4_1).f0)) ∧ w'.cell? ⟨(ad216.add ((x4_1).toNat * 3)).block, (ad216.add ((x4_1).toNat * 3)).off + 1, none⟩ = some (.int .i64 ((rd_T23 l0_3 x4_1).f1)) ∧ w'.cell? ⟨(ad216.add ((x4_1).toNat * 3)).block, (ad216.add ((x4_1).toNat * 3)).off + 2, none⟩ = some (.int .u8 ((rd_T23 l0_3 x4_1).f2)) ∧ w'.cell? (ad216.add ((x4_1).toNat * 3)) = some (.int .i64 ((rd_T23 l0_3 x4_1).f0)) ∧ w'.cell? ⟨(ad216.add ((x4_1).toNat * 3)).block, (ad216.add ((x4_1).toNat * 3)).off + 1, none⟩ = some (.int .i64 ((rd_T23 l0_3 x4_1).f1)) ∧ w'.cell? ⟨(ad216.add ((x4_1).toNat * 3)).block, (ad216.add ((x4_1).toNat * 3)).off + 2, none⟩ = some (.int .u8 ((rd_T23 l0_3 x4_1).f2))) ∧ (Kd.R (Kd.int .u8) 5 w' w.heap.size (fun _ => True) s_ y221) ∧ (w'.heap[gb209]? = some (.cells #[.int .i64 a0_0, .int .i64 a0_1, .int .u8 a0_2, .slice (some ad216) l0_3.length c0_3] 26 (0, 0))) ∧ (Below w.heap.size w w')) ?_ ?_
                   rotate_left
                   ·intro hJ7_16_25_26
                    refine join_ (σ := Value) 4 #[true, true, true, true, true, true, true, true, true, true, true, true, true, true, true, true, true, true, true, true, true, true, true, true, true, true, false, false, false, false] (fun s_ => [(38, .string t217), (47, .string t219), (56, s_), (39, .string (x3_1 ++ t217)), (40, .string ((x3_1 ++ t217) ++ (⟨#[32]⟩ : ByteArray))), (48, .string (((x3_1 ++ t217) ++ (⟨#[32]⟩ : ByteArray)) ++ t219)), (49, .string ((((x3_1 ++ t217) ++ (⟨#[32]⟩ : ByteArray)) ++ t219) ++ (⟨#[32]⟩ : ByteArray)))]) (fun s_ w' => (w'.cell? ⟨gb209, 0, none⟩ = some (.int .i64 a0_0) ∧ w'.cell? ⟨gb209, 1, none⟩ = some (.int .i64 a0_1) ∧ w'.cell? ⟨gb209, 2, none⟩ = some (.int .u8 a0_2) ∧ w'.cell? ⟨gb209, 3, none⟩ = some (.slice (some ad216) l0_3.length c0_3) ∧ w'.cell? (ad216.add ((x4_1).toNat * 3)) = some (.int .i64 ((rd_T23 l0_3 x4_1).f0)) ∧ w'.cell? ⟨(ad216.add ((x4_1).toNat * 3)).block, (ad216.add ((x4_1).toNat * 3)).off + 1, none⟩ = some (.int .i64 ((rd_T23 l0_3 x4_1).f1)) ∧ w'.cell? ⟨(ad216.add ((x4_1).toNat * 3)).block, (ad216.add ((x4_1).toNat * 3)).off + 2, none⟩ = some (.int .u8 ((rd_T23 l0_3 x4_1).f2)) ∧ w'.cell? (ad216.add ((x4_1).toNat * 3)) = some (.int .i64 ((rd_T23 l0_3 x4_1).f0)) ∧ w'.cell? ⟨(ad216.add ((x4_1).toNat * 3)).block, (ad216.add ((x4_1).toNat * 3)).off + 1, none⟩ = some (.int .i64 ((rd_T23 l0_3 x4_1).f1)) ∧ w'.cell? ⟨(ad216.add ((x4_1).toNat * 3)).block, (ad216.add ((x4_1).toNat * 3)).off + 2, none⟩ = some (.int .u8 ((rd_T23 l0_3 x4_1).f2)) ∧ w'.cell? (ad216.add ((x4_1).toNat * 3)) = some (.int .i64 ((rd_T23 l0_3 x4_1).f0)) ∧ w'.cell? ⟨(ad216.add ((x4_1).toNat * 3)).block, (ad216.add ((x4_1).toNat * 3)).off + 1, none⟩ = some (.int .i64 ((rd_T23 l0_3 x4_1).f1)) ∧ w'.cell? ⟨(ad216.add ((x4_1).toNat * 3)).block, (ad216.add ((x4_1).toNat * 3)).off + 2, none⟩ = some (.int .u8 ((rd_T23 l0_3 x4_1).f2))) ∧ (Kd.R (Kd.int .u8) 5 w' w.heap.size (fun _ => True) s_ y221) ∧ (w'.heap[gb209]? = some (.cells #[.int .i64 a0_0, .int .i64 a0_1, .int .u8 a0_2, .slice (some ad216) l0_3.length c0_3] 26 (0, 0))) ∧ (Below w.heap.size w w')) ?_ ?_
                    rotate_left
                    ·intro hJ7_16_25
                     refine join_ (σ := Value) 6 #[true, true, true, true, true, true, true, true, true, true, true, true, true, true, true, true, false, false, false, true, true, true, true, true, true, true, true, false, false, false] (fun s_ => [(38, .string t217), (56, s_), (57, .string (strOfNums y221)), (39, .string (x3_1 ++ t217)), (40, .string ((x3_1 ++ t217) ++ (⟨#[32]⟩ : ByteArray)))]) (fun s_ w' => (w'.cell? ⟨gb209, 0, none⟩ = some (.int .i64 a0_0) ∧ w'.cell? ⟨gb209, 1, none⟩ = some (.int .i64 a0_1) ∧ w'.cell? ⟨gb209, 2, none⟩ = some (.int .u8 a0_2) ∧ w'.cell? ⟨gb209, 3, none⟩ = some (.slice (some ad216) l0_3.length c0_3) ∧ w'.cell? (ad216.add ((x4_1).toNat * 3)) = some (.int .i64 ((rd_T23 l0_3 x4_1).f0)) ∧ w'.cell? ⟨(ad216.add ((x4_1).toNat * 3)).block, (ad216.add ((x4_1).toNat * 3)).off + 1, none⟩ = some (.int .i64 ((rd_T23 l0_3 x4_1).f1)) ∧ w'.cell? ⟨(ad216.add ((x4_1).toNat * 3)).block, (ad216.add ((x4_1).toNat * 3)).off + 2, none⟩ = some (.int .u8 ((rd_T23 l0_3 x4_1).f2)) ∧ w'.cell? (ad216.add ((x4_1).toNat * 3)) = some (.int .i64 ((rd_T23 l0_3 x4_1).f0)) ∧ w'.cell? ⟨(ad216.add ((x4_1).toNat * 3)).block, (ad216.add ((x4_1).toNat * 3)).off + 1, none⟩ = some (.int .i64 ((rd_T23 l0_3 x4_1).f1)) ∧ w'.cell? ⟨(ad216.add ((x4_1).toNat * 3)).block, (ad216.add ((x4_1).toNat * 3)).off + 2, none⟩ = some (.int .u8 ((rd_T23 l0_3 x4_1).f2)) ∧ w'.cell? (ad216.add ((x4_1).toNat * 3)) = some (.int .i64 ((rd_T23 l0_3 x4_1).f0)) ∧ w'.cell? ⟨(ad216.add ((x4_1).toNat * 3)).block, (ad216.add ((x4_1).toNat * 3)).off + 1, none⟩ = some (.int .i64 ((rd_T23 l0_3 x4_1).f1)) ∧ w'.cell? ⟨(ad216.add ((x4_1).toNat * 3)).block, (ad216.add ((x4_1).toNat * 3)).off + 2, none⟩ = some (.int .u8 ((rd_T23 l0_3 x4_1).f2))) ∧ (Kd.R (Kd.int .u8) 5 w' w.heap.size (fun _ => True) s_ y221) ∧ (w'.heap[gb209]? = some (.cells #[.int .i64 a0_0, .int .i64 a0_1, .int .u8 a0_2, .slice (some ad216) l0_3.length c0_3] 26 (0, 0))) ∧ (Below w.heap.size w w')) ?_ ?_
                     rotate_left
                     ·intro hJ7_25_26
                      refine join_ (σ := Unit) 5 #[true, true, true, true, true, true, true, true, true, true, true, true, true, true, true, true, true, true, true, true, true, true, true, true, true, false, false, false, false, false] (fun s_ => [(38, .string t217), (47, .string t219), (39, .string (x3_1 ++ t217)), (40, .string ((x3_1 ++ t217) ++ (⟨#[32]⟩ : ByteArray))), (48, .string (((x3_1 ++ t217) ++ (⟨#[32]⟩ : ByteArray)) ++ t219)), (49, .string ((((x3_1 ++ t217) ++ (⟨#[32]⟩ : ByteArray)) ++ t219) ++ (⟨#[32]⟩ : ByteArray)))]) (fun s_ w' => (w'.cell? ⟨gb209, 0, none⟩ = some (.int .i64 a0_0) ∧ w'.cell? ⟨gb209, 1, none⟩ = some (.int .i64 a0_1) ∧ w'.cell? ⟨gb209, 2, none⟩ = some (.int .u8 a0_2) ∧ w'.cell? ⟨gb209, 3, none⟩ = some (.slice (some ad216) l0_3.length c0_3) ∧ w'.cell? (ad216.add ((x4_1).toNat * 3)) = some (.int .i64 ((rd_T23 l0_3 x4_1).f0)) ∧ w'.cell? ⟨(ad216.add ((x4_1).toNat * 3)).block, (ad216.add ((x4_1).toNat * 3)).off + 1, none⟩ = some (.int .i64 ((rd_T23 l0_3 x4_1).f1)) ∧ w'.cell? ⟨(ad216.add ((x4_1).toNat * 3)).block, (ad216.add ((x4_1).toNat * 3)).off + 2, none⟩ = some (.int .u8 ((rd_T23 l0_3 x4_1).f2)) ∧ w'.cell? (ad216.add ((x4_1).toNat * 3)) = some (.int .i64 ((rd_T23 l0_3 x4_1).f0)) ∧ w'.cell? ⟨(ad216.add ((x4_1).toNat * 3)).block, (ad216.add ((x4_1).toNat * 3)).off + 1, none⟩ = some (.int .i64 ((rd_T23 l0_3 x4_1).f1)) ∧ w'.cell? ⟨(ad216.add ((x4_1).toNat * 3)).block, (ad216.add ((x4_1).toNat * 3)).off + 2, none⟩ = some (.int .u8 ((rd_T23 l0_3 x4_1).f2)) ∧ w'.cell? (ad216.add ((x4_1).toNat * 3)) = some (.int .i64 ((rd_T23 l0_3 x4_1).f0)) ∧ w'.cell? ⟨(ad216.add ((x4_1).toNat * 3)).block, (ad216.add ((x4_1).toNat * 3)).off + 1, none⟩ = some (.int .i64 ((rd_T23 l0_3 x4_1).f1)) ∧ w'.cell? ⟨(ad216.add ((x4_1).toNat * 3)).block, (ad216.add ((x4_1).toNat * 3)).off + 2, none⟩ = some (.int .u8 ((rd_T23 l0_3 x4_1).f2))) ∧ (w'.heap[gb209]? = some (.cells #[.int .i64 a0_0, .int .i64 a0_1, .int .u8 a0_2, .slice (some ad216) l0_3.length c0_3] 26 (0, 0))) ∧ (Below w.heap.size w w')) ?_ ?_
                      rotate_left
                      ·intro hJ7_16
                       refine join_ (σ := Value) 7 #[true, true, true, true, true, true, true, true, true, true, true, true, true, true, true, true, false, false, false, true, true, true, true, true, true, true, false, false, false, false] (fun s_ => [(38, .string t217), (56, s_), (39, .string (x3_1 ++ t217)), (40, .string ((x3_1 ++ t217) ++ (⟨#[32]⟩ : ByteArray)))]) (fun s_ w' => (w'.cell? ⟨gb209, 0, none⟩ = some (.int .i64 a0_0) ∧ w'.cell? ⟨gb209, 1, none⟩ = some (.int .i64 a0_1) ∧ w'.cell? ⟨gb209, 2, none⟩ = some (.int .u8 a0_2) ∧ w'.cell? ⟨gb209, 3, none⟩ = some (.slice (some ad216) l0_3.length c0_3) ∧ w'.cell? (ad216.add ((x4_1).toNat * 3)) = some (.int .i64 ((rd_T23 l0_3 x4_1).f0)) ∧ w'.cell? ⟨(ad216.add ((x4_1).toNat * 3)).block, (ad216.add ((x4_1).toNat * 3)).off + 1, none⟩ = some (.int .i64 ((rd_T23 l0_3 x4_1).f1)) ∧ w'.cell? ⟨(ad216.add ((x4_1).toNat * 3)).block, (ad216.add ((x4_1).toNat * 3)).off + 2, none⟩ = some (.int .u8 ((rd_T23 l0_3 x4_1).f2)) ∧ w'.cell? (ad216.add ((x4_1).toNat * 3)) = some (.int .i64 ((rd_T23 l0_3 x4_1).f0)) ∧ w'.cell? ⟨(ad216.add ((x4_1).toNat * 3)).block, (ad216.add ((x4_1).toNat * 3)).off + 1, none⟩ = some (.int .i64 ((rd_T23 l0_3 x4_1).f1)) ∧ w'.cell? ⟨(ad216.add ((x4_1).toNat * 3)).block, (ad216.add ((x4_1).toNat * 3)).off + 2, none⟩ = some (.int .u8 ((rd_T23 l0_3 x4_1).f2)) ∧ w'.cell? (ad216.add ((x4_1).toNat * 3)) = some (.int .i64 ((rd_T23 l0_3 x4_1).f0)) ∧ w'.cell? ⟨(ad216.add ((x4_1).toNat * 3)).block, (ad216.add ((x4_1).toNat * 3)).off + 1, none⟩ = some (.int .i64 ((rd_T23 l0_3 x4_1).f1)) ∧ w'.cell? ⟨(ad216.add ((x4_1).toNat * 3)).block, (ad216.add ((x4_1).toNat * 3)).off + 2, none⟩ = some (.int .u8 ((rd_T23 l0_3 x4_1).f2))) ∧ (Kd.R (Kd.int .u8) 5 w' w.heap.size (fun _ => True) s_ y221) ∧ (w'.heap[gb209]? = some (.cells #[.int .i64 a0_0, .int .i64 a0_1, .int .u8 a0_2, .slice (some ad216) l0_3.length c0_3] 26 (0, 0))) ∧ (Below w.heap.size w w')) ?_ ?_
                       rotate_left
                       ·intro hJ7_25
                        refine join_ (σ := Value) 9 #[true, true, true, true, true, true, true, false, false, false, true, true, true, true, true, true, false, false, false, true, true, true, true, true, true, true, true, false, false, false] (fun s_ => [(56, s_), (57, .string (strOfNums y221))]) (fun s_ w' => (w'.cell? ⟨gb209, 0, none⟩ = some (.int .i64 a0_0) ∧ w'.cell? ⟨gb209, 1, none⟩ = some (.int .i64 a0_1) ∧ w'.cell? ⟨gb209, 2, none⟩ = some (.int .u8 a0_2) ∧ w'.cell? ⟨gb209, 3, none⟩ = some (.slice (some ad216) l0_3.length c0_3) ∧ w'.cell? (ad216.add ((x4_1).toNat * 3)) = some (.int .i64 ((rd_T23 l0_3 x4_1).f0)) ∧ w'.cell? ⟨(ad216.add ((x4_1).toNat * 3)).block, (ad216.add ((x4_1).toNat * 3)).off + 1, none⟩ = some (.int .i64 ((rd_T23 l0_3 x4_1).f1)) ∧ w'.cell? ⟨(ad216.add ((x4_1).toNat * 3)).block, (ad216.add ((x4_1).toNat * 3)).off + 2, none⟩ = some (.int .u8 ((rd_T23 l0_3 x4_1).f2)) ∧ w'.cell? (ad216.add ((x4_1).toNat * 3)) = some (.int .i64 ((rd_T23 l0_3 x4_1).f0)) ∧ w'.cell? ⟨(ad216.add ((x4_1).toNat * 3)).block, (ad216.add ((x4_1).toNat * 3)).off + 1, none⟩ = some (.int .i64 ((rd_T23 l0_3 x4_1).f1)) ∧ w'.cell? ⟨(ad216.add ((x4_1).toNat * 3)).block, (ad216.add ((x4_1).toNat * 3)).off + 2, none⟩ = some (.int .u8 ((rd_T23 l0_3 x4_1).f2)) ∧ w'.cell? (ad216.add ((x4_1).toNat * 3)) = some (.int .i64 ((rd_T23 l0_3 x4_1).f0)) ∧ w'.cell? ⟨(ad216.add ((x4_1).toNat * 3)).block, (ad216.add ((x4_1).toNat * 3)).off + 1, none⟩ = some (.int .i64 ((rd_T23 l0_3 x4_1).f1)) ∧ w'.cell? ⟨(ad216.add ((x4_1).toNat * 3)).block, (ad216.add ((x4_1).toNat * 3)).off + 2, none⟩ = some (.int .u8 ((rd_T23 l0_3 x4_1).f2))) ∧ (Kd.R (Kd.int .u8) 5 w' w.heap.size (fun _ => True) s_ y221) ∧ (w'.heap[gb209]? = some (.cells #[.int .i64 a0_0, .int .i64 a0_1, .int .u8 a0_2, .slice (some ad216) l0_3.length c0_3] 26 (0, 0))) ∧ (Below w.heap.size w w')) ?_ ?_
                        rotate_left
                        ·intro hJ25_26
                         refine join_ (σ := Unit) 8 #[true, true, true, true, true, true, true, true, true, true, true, true, true, true, true, true, false, false, false, true, true, true, true, true, true, false, false, false, false, false] (fun s_ => [(38, .string t217), (39, .string (x3_1 ++ t217)), (40, .string ((x3_1 ++ t217) ++ (⟨#[32]⟩ : ByteArray)))]) (fun s_ w' => (w'.cell? ⟨gb209, 0, none⟩ = some (.int .i64 a0_0) ∧ w'.cell? ⟨gb209, 1, none⟩ = some (.int .i64 a0_1) ∧ w'.cell? ⟨gb209, 2, none⟩ = some (.int .u8 a0_2) ∧ w'.cell? ⟨gb209, 3, none⟩ = some (.slice (some ad216) l0_3.length c0_3) ∧ w'.cell? (ad216.add ((x4_1).toNat * 3)) = some (.int .i64 ((rd_T23 l0_3 x4_1).f0)) ∧ w'.cell? ⟨(ad216.add ((x4_1).toNat * 3)).block, (ad216.add ((x4_1).toNat * 3)).off + 1, none⟩ = some (.int .i64 ((rd_T23 l0_3 x4_1).f1)) ∧ w'.cell? ⟨(ad216.add ((x4_1).toNat * 3)).block, (ad216.add ((x4_1).toNat * 3)).off + 2, none⟩ = some (.int .u8 ((rd_T23 l0_3 x4_1).f2)) ∧ w'.cell? (ad216.add ((x4_1).toNat * 3)) = some (.int .i64 ((rd_T23 l0_3 x4_1).f0)) ∧ w'.cell? ⟨(ad216.add ((x4_1).toNat * 3)).block, (ad216.add ((x4_1).toNat * 3)).off + 1, none⟩ = some (.int .i64 ((rd_T23 l0_3 x4_1).f1)) ∧ w'.cell? ⟨(ad216.add ((x4_1).toNat * 3)).block, (ad216.add ((x4_1).toNat * 3)).off + 2, none⟩ = some (.int .u8 ((rd_T23 l0_3 x4_1).f2)) ∧ w'.cell? (ad216.add ((x4_1).toNat * 3)) = some (.int .i64 ((rd_T23 l0_3 x4_1).f0)) ∧ w'.cell? ⟨(ad216.add ((x4_1).toNat * 3)).block, (ad216.add ((x4_1).toNat * 3)).off + 1, none⟩ = some (.int .i64 ((rd_T23 l0_3 x4_1).f1)) ∧ w'.cell? ⟨(ad216.add ((x4_1).toNat * 3)).block, (ad216.add ((x4_1).toNat * 3)).off + 2, none⟩ = some (.int .u8 ((rd_T23 l0_3 x4_1).f2))) ∧ (w'.heap[gb209]? = some (.cells #[.int .i64 a0_0, .int .i64 a0_1, .int .u8 a0_2, .slice (some ad216) l0_3.length c0_3] 26 (0, 0))) ∧ (Below w.heap.size w w')) ?_ ?_
                         rotate_left
                         ·intro hJ7
                          refine join_ (σ := Value) 10 #[true, true, true, true, true, true, true, false, false, false, true, true, true, true, true, true, false, false, false, true, true, true, true, true, true, true, false, false, false, false] (fun s_ => [(56, s_)]) (fun s_ w' => (w'.cell? ⟨gb209, 0, none⟩ = some (.int .i64 a0_0) ∧ w'.cell? ⟨gb209, 1, none⟩ = some (.int .i64 a0_1) ∧ w'.cell? ⟨gb209, 2, none⟩ = some (.int .u8 a0_2) ∧ w'.cell? ⟨gb209, 3, none⟩ = some (.slice (some ad216) l0_3.length c0_3) ∧ w'.cell? (ad216.add ((x4_1).toNat * 3)) = some (.int .i64 ((rd_T23 l0_3 x4_1).f0)) ∧ w'.cell? ⟨(ad216.add ((x4_1).toNat * 3)).block, (ad216.add ((x4_1).toNat * 3)).off + 1, none⟩ = some (.int .i64 ((rd_T23 l0_3 x4_1).f1)) ∧ w'.cell? ⟨(ad216.add ((x4_1).toNat * 3)).block, (ad216.add ((x4_1).toNat * 3)).off + 2, none⟩ = some (.int .u8 ((rd_T23 l0_3 x4_1).f2)) ∧ w'.cell? (ad216.add ((x4_1).toNat * 3)) = some (.int .i64 ((rd_T23 l0_3 x4_1).f0)) ∧ w'.cell? ⟨(ad216.add ((x4_1).toNat * 3)).block, (ad216.add ((x4_1).toNat * 3)).off + 1, none⟩ = some (.int .i64 ((rd_T23 l0_3 x4_1).f1)) ∧ w'.cell? ⟨(ad216.add ((x4_1).toNat * 3)).block, (ad216.add ((x4_1).toNat * 3)).off + 2, none⟩ = some (.int .u8 ((rd_T23 l0_3 x4_1).f2)) ∧ w'.cell? (ad216.add ((x4_1).toNat * 3)) = some (.int .i64 ((rd_T23 l0_3 x4_1).f0)) ∧ w'.cell? ⟨(ad216.add ((x4_1).toNat * 3)).block, (ad216.add ((x4_1).toNat * 3)).off + 1, none⟩ = some (.int .i64 ((rd_T23 l0_3 x4_1).f1)) ∧ w'.cell? ⟨(ad216.add ((x4_1).toNat * 3)).block, (ad216.add ((x4_1).toNat * 3)).off + 2, none⟩ = some (.int .u8 ((rd_T23 l0_3 x4_1).f2))) ∧ (Kd.R (Kd.int .u8) 5 w' w.heap.size (fun _ => True) s_ y221) ∧ (w'.heap[gb209]? = some (.cells #[.int .i64 a0_0, .int .i64 a0_1, .int .u8 a0_2, .slice (some ad216) l0_3.length c0_3] 26 (0, 0))) ∧ (Below w.heap.size w w')) ?_ ?_
                          rotate_left
                          ·intro hJ25
                           refine two_ (i := 7) (j := 25) (Ni := some 38) (Nj := some 56) #[true, true, true, true, true, true, true, true, false, false, true, true, true, true, true, true, false, false, false, true, true, true, true, true, true, false, false, false, false, false] #[true, true, true, true, true, true, true, false, false, false, true, true, true, true, true, true, false, false, false, true, true, true, true, true, true, true, false, false, false, false] rfl rfl rfl rfl (two_of HT_.out (by kernel_rfl)) (by decide) (by decide) (fun K hK => ?_) (fun K hK => ?_)
                           ·skip
                            refine gq_ Tryz.func41 (by kernel_rfl) rfl #[.int .i64 ((rd_T23 l0_3 x4_1).f0)] (by rfl) rfl rfl ?_
                            with_reducible refine (salvorref1_Hex.calls k1 ((rd_T23 l0_3 x4_1).f0) t217 _ A22.out).mono ?_
                            rintro e w' ⟨rfl, ⟨nd, rfl⟩⟩
                            refine ⟨_, rfl, ?_⟩
                            refine hK.out _ _ ⟨(blk_cell BK209.out 0).trans rfl, (blk_cell BK209.out 1).trans rfl, (blk_cell BK209.out 2).trans rfl, (blk_cell BK209.out 3).trans rfl, ((HB.out.cell (World.block_lt_of_cell? w _ hw216_0)).trans hw216_0), ((HB.out.cell (World.block_lt_of_cell? w _ hw216_1)).trans hw216_1), ((HB.out.cell (World.block_lt_of_cell? w _ hw216_2)).trans hw216_2), ((HB.out.cell (World.block_lt_of_cell? w _ hw218_0)).trans hw218_0), ((HB.out.cell (World.block_lt_of_cell? w _ hw218_1)).trans hw218_1), ((HB.out.cell (World.block_lt_of_cell? w _ hw218_2)).trans hw218_2), ((HB.out.cell (World.block_lt_of_cell? w _ hw220_0)).trans hw220_0), ((HB.out.cell (World.block_lt_of_cell? w _ hw220_1)).trans hw220_1), ((HB.out.cell (World.block_lt_of_cell? w _ hw220_2)).trans hw220_2)⟩ (fun hHeld => ?_)
                            clear hK K
                            refine nm_ 38 ?_
                            refine pu_ 8 39 (lb_ 30 33095167) rfl rfl (ao_ HT_) ?_
                            refine pu_ 9 40 (lb_ 30 33095679) rfl rfl (ao_ HT_) ?_
                            exact norm_ (by first | (simp only [putAll, Act.put, List.setIfInBounds_toArray, List.set_cons_zero, List.set_cons_succ]; done) | (simp only [putAll, Act.put, List.setIfInBounds_toArray, List.set_cons_zero, List.set_cons_succ]; rfl)) (hJ7 () _ ⟨hHeld, (bq_ BK209), (bh_ HB)⟩)
                           ·skip
                            refine Kd.R_lit_step (Kd.int .u8) _ 5 ?hg (N := 56) ?hd (xs := ([(rd_T23 l0_3 x4_1).f2] : List Int)) (inner := [.int .u8 ((rd_T23 l0_3 x4_1).f2)]) (ok := fun _ => True) (okp := fun _ => True) ?hr ?hp (fun _ hk => hk) trivial (Below.refl _ _) (Nat.le_refl _) (by simp) ?_; (case hd => rfl); (case hg => rfl); (case hr => first | (go_simp; done) | (go_simp; rfl)); (case hp => exact (Reps.one (show Kd.M (Kd.int .u8) _ _ _ ((rd_T23 l0_3 x4_1).f2) [.int .u8 ((rd_T23 l0_3 x4_1).f2)] from rfl) (Reps.none _ _)))
                            intro v222 w33 ho34 hb hg_ hnew_
                            clear hg_ hnew_
                            (first | rw [← Ny221.out] at ho34 | (simp only [Int.reduceToNat] at ho34; rw [← Ny221.out] at ho34))
                            have HO223 := Aside0.mk (Kd.R_lower ho34 (below_size (bh_ HB)))
                            replace BK209 := bb_ BK209 hb
                            replace HB := bs_ HB hb
                            clear hb ho34
                            refine hK.out _ _ ⟨(blk_cell BK209.out 0).trans rfl, (blk_cell BK209.out 1).trans rfl, (blk_cell BK209.out 2).trans rfl, (blk_cell BK209.out 3).trans rfl, ((HB.out.cell (World.block_lt_of_cell? w _ hw216_0)).trans hw216_0), ((HB.out.cell (World.block_lt_of_cell? w _ hw216_1)).trans hw216_1), ((HB.out.cell (World.block_lt_of_cell? w _ hw216_2)).trans hw216_2), ((HB.out.cell (World.block_lt_of_cell? w _ hw218_0)).trans hw218_0), ((HB.out.cell (World.block_lt_of_cell? w _ hw218_1)).trans hw218_1), ((HB.out.cell (World.block_lt_of_cell? w _ hw218_2)).trans hw218_2), ((HB.out.cell (World.block_lt_of_cell? w _ hw220_0)).trans hw220_0), ((HB.out.cell (World.block_lt_of_cell? w _ hw220_1)).trans hw220_1), ((HB.out.cell (World.block_lt_of_cell? w _ hw220_2)).trans hw220_2)⟩ (fun hHeld => ?_)
                            clear hK K
                            refine nm_ 56 ?_
                            exact norm_ (by first | (simp only [putAll, Act.put, List.setIfInBounds_toArray, List.set_cons_zero, List.set_cons_succ]; done) | (simp only [putAll, Act.put, List.setIfInBounds_toArray, List.set_cons_zero, List.set_cons_succ]; rfl)) (hJ25 (v222) _ ⟨hHeld, (by (with_reducible repeat (first | apply Kd.R_alloc | apply Kd.R_drewN | apply Kd.R_drew)); exact HO223.out), (bq_ BK209), (bh_ HB)⟩)
                          ·skip
                           rintro v222 w35 ⟨hS_, h0_, h1_, h2_⟩
                           have n0_ : Aside0 (Kd.R (Kd.int .u8) 5 w35 w.heap.size (fun _ => True) v222 y221) := ⟨h0_⟩
                           have n1_ : Aside0 (w35.heap[gb209]? = some (.cells #[.int .i64 a0_0, .int .i64 a0_1, .int .u8 a0_2, .slice (some ad216) l0_3.length c0_3] 26 (0, 0))) := ⟨h1_⟩
                           have n2_ : Aside0 (Below w.heap.size w w35) := ⟨h2_⟩
                           clear BK209
                           clear HB
                           clear h0_ h1_ h2_
                           have HO223 := n0_
                           have BK209 := n1_
                           have HB := n2_
                           clear n0_ n1_ n2_
                           have hHeld : w35.cell? ⟨gb209, 0, none⟩ = some (.int .i64 a0_0) ∧ w35.cell? ⟨gb209, 1, none⟩ = some (.int .i64 a0_1) ∧ w35.cell? ⟨gb209, 2, none⟩ = some (.int .u8 a0_2) ∧ w35.cell? ⟨gb209, 3, none⟩ = some (.slice (some ad216) l0_3.length c0_3) ∧ w35.cell? (ad216.add ((x4_1).toNat * 3)) = some (.int .i64 ((rd_T23 l0_3 x4_1).f0)) ∧ w35.cell? ⟨(ad216.add ((x4_1).toNat * 3)).block, (ad216.add ((x4_1).toNat * 3)).off + 1, none⟩ = some (.int .i64 ((rd_T23 l0_3 x4_1).f1)) ∧ w35.cell? ⟨(ad216.add ((x4_1).toNat * 3)).block, (ad216.add ((x4_1).toNat * 3)).off + 2, none⟩ = some (.int .u8 ((rd_T23 l0_3 x4_1).f2)) ∧ w35.cell? (ad216.add ((x4_1).toNat * 3)) = some (.int .i64 ((rd_T23 l0_3 x4_1).f0)) ∧ w35.cell? ⟨(ad216.add ((x4_1).toNat * 3)).block, (ad216.add ((x4_1).toNat * 3)).off + 1, none⟩ = some (.int .i64 ((rd_T23 l0_3 x4_1).f1)) ∧ w35.cell? ⟨(ad216.add ((x4_1).toNat * 3)).block, (ad216.add ((x4_1).toNat * 3)).off + 2, none⟩ = some (.int .u8 ((rd_T23 l0_3 x4_1).f2)) ∧ w35.cell? (ad216.add ((x4_1).toNat * 3)) = some (.int .i64 ((rd_T23 l0_3 x4_1).f0)) ∧ w35.cell? ⟨(ad216.add ((x4_1).toNat * 3)).block, (ad216.add ((x4_1).toNat * 3)).off + 1, none⟩ = some (.int .i64 ((rd_T23 l0_3 x4_1).f1)) ∧ w35.cell? ⟨(ad216.add ((x4_1).toNat * 3)).block, (ad216.add ((x4_1).toNat * 3)).off + 2, none⟩ = some (.int .u8 ((rd_T23 l0_3 x4_1).f2)) := hS_
                           refine norm_ (a' := ?_) ?_ ?_
                           rotate_left
                           ·simp only [putAll, Act.put, List.setIfInBounds_toArray, List.set_cons_zero, List.set_cons_succ]
                            rfl
                           refine two_ (i := 7) (j := 26) (Ni := some 38) (Nj := some 57) #[true, true, true, true, true, true, true, true, false, false, true, true, true, true, true, true, false, false, false, true, true, true, true, true, true, true, false, false, false, false] #[true, true, true, true, true, true, true, false, false, false, true, true, true, true, true, true, false, false, false, true, true, true, true, true, true, true, true, false, false, false] rfl rfl rfl rfl (two_of HT_.out (by kernel_rfl)) (by decide) (by decide) (fun K hK => ?_) (fun K hK => ?_)
                           ·skip
                            refine gq_ Tryz.func41 (by kernel_rfl) rfl #[.int .i64 ((rd_T23 l0_3 x4_1).f0)] (by rfl) rfl rfl ?_
                            with_reducible refine (salvorref1_Hex.calls k1 ((rd_T23 l0_3 x4_1).f0) t217 _ A22.out).mono ?_
                            rintro e w' ⟨rfl, ⟨nd, rfl⟩⟩
                            refine ⟨_, rfl, ?_⟩
                            refine hK.out _ _ ⟨(blk_cell BK209.out 0).trans rfl, (blk_cell BK209.out 1).trans rfl, (blk_cell BK209.out 2).trans rfl, (blk_cell BK209.out 3).trans rfl, ((HB.out.cell (World.block_lt_of_cell? w _ hw216_0)).trans hw216_0), ((HB.out.cell (World.block_lt_of_cell? w _ hw216_1)).trans hw216_1), ((HB.out.cell (World.block_lt_of_cell? w _ hw216_2)).trans hw216_2), ((HB.out.cell (World.block_lt_of_cell? w _ hw218_0)).trans hw218_0), ((HB.out.cell (World.block_lt_of_cell? w _ hw218_1)).trans hw218_1), ((HB.out.cell (World.block_lt_of_cell? w _ hw218_2)).trans hw218_2), ((HB.out.cell (World.block_lt_of_cell? w _ hw220_0)).trans hw220_0), ((HB.out.cell (World.block_lt_of_cell? w _ hw220_1)).trans hw220_1), ((HB.out.cell (World.block_lt_of_cell? w _ hw220_2)).trans hw220_2)⟩ (fun hHeld => ?_)
                            clear hK K
                            refine nm_ 38 ?_
                            refine pu_ 8 39 (lb_ 30 66649599) rfl rfl (ao_ HT_) ?_
                            refine pu_ 9 40 (lb_ 30 66650111) rfl rfl (ao_ HT_) ?_
                            exact norm_ (by first | (simp only [putAll, Act.put, List.setIfInBounds_toArray, List.set_cons_zero, List.set_cons_succ]; done) | (simp only [putAll, Act.put, List.setIfInBounds_toArray, List.set_cons_zero, List.set_cons_succ]; rfl)) (hJ7_25 (v222) _ ⟨hHeld, (by (with_reducible repeat (first | apply Kd.R_alloc | apply Kd.R_drewN | apply Kd.R_drew)); exact HO223.out), (bq_ BK209), (bh_ HB)⟩)
                           ·skip
                            have hcv36 := own_string (P := Tryz.prog) Tryz.underlying39 Tryz.underlying5 Tryz.underlying9 (Kd.own_of_R HO223.out)
                            refine value_ (w1 := ?_) (v := ?_) (by rfl) rfl ?_ ?_
                            rotate_left 2
                            ·go_simp
                             constructor
                             ·rfl
                             ·rfl
                            clear hcv36
                            refine hK.out _ _ ⟨(blk_cell BK209.out 0).trans rfl, (blk_cell BK209.out 1).trans rfl, (blk_cell BK209.out 2).trans rfl, (blk_cell BK209.out 3).trans rfl, ((HB.out.cell (World.block_lt_of_cell? w _ hw216_0)).trans hw216_0), ((HB.out.cell (World.block_lt_of_cell? w _ hw216_1)).trans hw216_1), ((HB.out.cell (World.block_lt_of_cell? w _ hw216_2)).trans hw216_2), ((HB.out.cell (World.block_lt_of_cell? w _ hw218_0)).trans hw218_0), ((HB.out.cell (World.block_lt_of_cell? w _ hw218_1)).trans hw218_1), ((HB.out.cell (World.block_lt_of_cell? w _ hw218_2)).trans hw218_2), ((HB.out.cell (World.block_lt_of_cell? w _ hw220_0)).trans hw220_0), ((HB.out.cell (World.block_lt_of_cell? w _ hw220_1)).trans hw220_1), ((HB.out.cell (World.block_lt_of_cell? w _ hw220_2)).trans hw220_2)⟩ (fun hHeld => ?_)
                            clear hK K
                            refine nm_ 57 ?_
                            exact norm_ (by first | (simp only [putAll, Act.put, List.setIfInBounds_toArray, List.set_cons_zero, List.set_cons_succ]; done) | (simp only [putAll, Act.put, List.setIfInBounds_toArray, List.set_cons_zero, List.set_cons_succ]; rfl)) (hJ25_26 (v222) _ ⟨hHeld, (by (with_reducible repeat (first | apply Kd.R_alloc | apply Kd.R_drewN | apply Kd.R_drew)); exact HO223.out), (bq_ BK209), (bh_ HB)⟩)
                         ·skip
                          rintro _ w33 ⟨hS_, h0_, h1_⟩
                          have n0_ : Aside0 (w33.heap[gb209]? = some (.cells #[.int .i64 a0_0, .int .i64 a0_1, .int .u8 a0_2, .slice (some ad216) l0_3.length c0_3] 26 (0, 0))) := ⟨h0_⟩
                          have n1_ : Aside0 (Below w.heap.size w w33) := ⟨h1_⟩
                          clear BK209
                          clear HB
                          clear h0_ h1_
                          have BK209 := n0_
                          have HB := n1_
                          clear n0_ n1_
                          have hHeld : w33.cell? ⟨gb209, 0, none⟩ = some (.int .i64 a0_0) ∧ w33.cell? ⟨gb209, 1, none⟩ = some (.int .i64 a0_1) ∧ w33.cell? ⟨gb209, 2, none⟩ = some (.int .u8 a0_2) ∧ w33.cell? ⟨gb209, 3, none⟩ = some (.slice (some ad216) l0_3.length c0_3) ∧ w33.cell? (ad216.add ((x4_1).toNat * 3)) = some (.int .i64 ((rd_T23 l0_3 x4_1).f0)) ∧ w33.cell? ⟨(ad216.add ((x4_1).toNat * 3)).block, (ad216.add ((x4_1).toNat * 3)).off + 1, none⟩ = some (.int .i64 ((rd_T23 l0_3 x4_1).f1)) ∧ w33.cell? ⟨(ad216.add ((x4_1).toNat * 3)).block, (ad216.add ((x4_1).toNat * 3)).off + 2, none⟩ = some (.int .u8 ((rd_T23 l0_3 x4_1).f2)) ∧ w33.cell? (ad216.add ((x4_1).toNat * 3)) = some (.int .i64 ((rd_T23 l0_3 x4_1).f0)) ∧ w33.cell? ⟨(ad216.add ((x4_1).toNat * 3)).block, (ad216.add ((x4_1).toNat * 3)).off + 1, none⟩ = some (.int .i64 ((rd_T23 l0_3 x4_1).f1)) ∧ w33.cell? ⟨(ad216.add ((x4_1).toNat * 3)).block, (ad216.add ((x4_1).toNat * 3)).off + 2, none⟩ = some (.int .u8 ((rd_T23 l0_3 x4_1).f2)) ∧ w33.cell? (ad216.add ((x4_1).toNat * 3)) = some (.int .i64 ((rd_T23 l0_3 x4_1).f0)) ∧ w33.cell? ⟨(ad216.add ((x4_1).toNat * 3)).block, (ad216.add ((x4_1).toNat * 3)).off + 1, none⟩ = some (.int .i64 ((rd_T23 l0_3 x4_1).f1)) ∧ w33.cell? ⟨(ad216.add ((x4_1).toNat * 3)).block, (ad216.add ((x4_1).toNat * 3)).off + 2, none⟩ = some (.int .u8 ((rd_T23 l0_3 x4_1).f2)) := hS_
                          refine norm_ (a' := ?_) ?_ ?_
                          rotate_left
                          ·simp only [putAll, Act.put, List.setIfInBounds_toArray, List.set_cons_zero, List.set_cons_succ]
                           rfl
                          refine two_ (i := 16) (j := 25) (Ni := some 47) (Nj := some 56) #[true, true, true, true, true, true, true, true, true, true, true, true, true, true, true, true, true, false, false, true, true, true, true, true, true, false, false, false, false, false] #[true, true, true, true, true, true, true, true, true, true, true, true, true, true, true, true, false, false, false, true, true, true, true, true, true, true, false, false, false, false] rfl rfl rfl rfl (two_of HT_.out (by kernel_rfl)) (by decide) (by decide) (fun K hK => ?_) (fun K hK => ?_)
                          ·skip
                           refine gq_ Tryz.func41 (by kernel_rfl) rfl #[.int .i64 ((rd_T23 l0_3 x4_1).f1)] (by rfl) rfl rfl ?_
                           with_reducible refine (salvorref1_Hex.calls k1 ((rd_T23 l0_3 x4_1).f1) t219 _ A25.out).mono ?_
                           rintro e w' ⟨rfl, ⟨nd, rfl⟩⟩
                           refine ⟨_, rfl, ?_⟩
                           refine hK.out _ _ ⟨(blk_cell BK209.out 0).trans rfl, (blk_cell BK209.out 1).trans rfl, (blk_cell BK209.out 2).trans rfl, (blk_cell BK209.out 3).trans rfl, ((HB.out.cell (World.block_lt_of_cell? w _ hw216_0)).trans hw216_0), ((HB.out.cell (World.block_lt_of_cell? w _ hw216_1)).trans hw216_1), ((HB.out.cell (World.block_lt_of_cell? w _ hw216_2)).trans hw216_2), ((HB.out.cell (World.block_lt_of_cell? w _ hw218_0)).trans hw218_0), ((HB.out.cell (World.block_lt_of_cell? w _ hw218_1)).trans hw218_1), ((HB.out.cell (World.block_lt_of_cell? w _ hw218_2)).trans hw218_2), ((HB.out.cell (World.block_lt_of_cell? w _ hw220_0)).trans hw220_0), ((HB.out.cell (World.block_lt_of_cell? w _ hw220_1)).trans hw220_1), ((HB.out.cell (World.block_lt_of_cell? w _ hw220_2)).trans hw220_2)⟩ (fun hHeld => ?_)
                           clear hK K
                           refine nm_ 47 ?_
                           refine pu_ 17 48 (lb_ 30 33292287) rfl rfl (ao_ HT_) ?_
                           refine pu_ 18 49 (lb_ 30 33554431) rfl rfl (ao_ HT_) ?_
                           exact norm_ (by first | (simp only [putAll, Act.put, List.setIfInBounds_toArray, List.set_cons_zero, List.set_cons_succ]; done) | (simp only [putAll, Act.put, List.setIfInBounds_toArray, List.set_cons_zero, List.set_cons_succ]; rfl)) (hJ7_16 () _ ⟨hHeld, (bq_ BK209), (bh_ HB)⟩)
                          ·skip
                           refine Kd.R_lit_step (Kd.int .u8) _ 5 ?hg (N := 56) ?hd (xs := ([(rd_T23 l0_3 x4_1).f2] : List Int)) (inner := [.int .u8 ((rd_T23 l0_3 x4_1).f2)]) (ok := fun _ => True) (okp := fun _ => True) ?hr ?hp (fun _ hk => hk) trivial (Below.refl _ _) (Nat.le_refl _) (by simp) ?_; (case hd => rfl); (case hg => rfl); (case hr => first | (go_simp; done) | (go_simp; rfl)); (case hp => exact (Reps.one (show Kd.M (Kd.int .u8) _ _ _ ((rd_T23 l0_3 x4_1).f2) [.int .u8 ((rd_T23 l0_3 x4_1).f2)] from rfl) (Reps.none _ _)))
                           intro v222 w34 ho35 hb hg_ hnew_
                           clear hg_ hnew_
                           (first | rw [← Ny221.out] at ho35 | (simp only [Int.reduceToNat] at ho35; rw [← Ny221.out] at ho35))
                           have HO223 := Aside0.mk (Kd.R_lower ho35 (below_size (bh_ HB)))
                           replace BK209 := bb_ BK209 hb
                           replace HB := bs_ HB hb
                           clear hb ho35
                           refine hK.out _ _ ⟨(blk_cell BK209.out 0).trans rfl, (blk_cell BK209.out 1).trans rfl, (blk_cell BK209.out 2).trans rfl, (blk_cell BK209.out 3).trans rfl, ((HB.out.cell (World.block_lt_of_cell? w _ hw216_0)).trans hw216_0), ((HB.out.cell (World.block_lt_of_cell? w _ hw216_1)).trans hw216_1), ((HB.out.cell (World.block_lt_of_cell? w _ hw216_2)).trans hw216_2), ((HB.out.cell (World.block_lt_of_cell? w _ hw218_0)).trans hw218_0), ((HB.out.cell (World.block_lt_of_cell? w _ hw218_1)).trans hw218_1), ((HB.out.cell (World.block_lt_of_cell? w _ hw218_2)).trans hw218_2), ((HB.out.cell (World.block_lt_of_cell? w _ hw220_0)).trans hw220_0), ((HB.out.cell (World.block_lt_of_cell? w _ hw220_1)).trans hw220_1), ((HB.out.cell (World.block_lt_of_cell? w _ hw220_2)).trans hw220_2)⟩ (fun hHeld => ?_)
                           clear hK K
                           refine nm_ 56 ?_
                           exact norm_ (by first | (simp only [putAll, Act.put, List.setIfInBounds_toArray, List.set_cons_zero, List.set_cons_succ]; done) | (simp only [putAll, Act.put, List.setIfInBounds_toArray, List.set_cons_zero, List.set_cons_succ]; rfl)) (hJ7_25 (v222) _ ⟨hHeld, (by (with_reducible repeat (first | apply Kd.R_alloc | apply Kd.R_drewN | apply Kd.R_drew)); exact HO223.out), (bq_ BK209), (bh_ HB)⟩)
                        ·skip
                         rintro v222 w36 ⟨hS_, h0_, h1_, h2_⟩
                         have n0_ : Aside0 (Kd.R (Kd.int .u8) 5 w36 w.heap.size (fun _ => True) v222 y221) := ⟨h0_⟩
                         have n1_ : Aside0 (w36.heap[gb209]? = some (.cells #[.int .i64 a0_0, .int .i64 a0_1, .int .u8 a0_2, .slice (some ad216) l0_3.length c0_3] 26 (0, 0))) := ⟨h1_⟩
                         have n2_ : Aside0 (Below w.heap.size w w36) := ⟨h2_⟩
                         clear BK209
                         clear HB
                         clear h0_ h1_ h2_
                         have HO223 := n0_
                         have BK209 := n1_
                         have HB := n2_
                         clear n0_ n1_ n2_
                         have hHeld : w36.cell? ⟨gb209, 0, none⟩ = some (.int .i64 a0_0) ∧ w36.cell? ⟨gb209, 1, none⟩ = some (.int .i64 a0_1) ∧ w36.cell? ⟨gb209, 2, none⟩ = some (.int .u8 a0_2) ∧ w36.cell? ⟨gb209, 3, none⟩ = some (.slice (some ad216) l0_3.length c0_3) ∧ w36.cell? (ad216.add ((x4_1).toNat * 3)) = some (.int .i64 ((rd_T23 l0_3 x4_1).f0)) ∧ w36.cell? ⟨(ad216.add ((x4_1).toNat * 3)).block, (ad216.add ((x4_1).toNat * 3)).off + 1, none⟩ = some (.int .i64 ((rd_T23 l0_3 x4_1).f1)) ∧ w36.cell? ⟨(ad216.add ((x4_1).toNat * 3)).block, (ad216.add ((x4_1).toNat * 3)).off + 2, none⟩ = some (.int .u8 ((rd_T23 l0_3 x4_1).f2)) ∧ w36.cell? (ad216.add ((x4_1).toNat * 3)) = some (.int .i64 ((rd_T23 l0_3 x4_1).f0)) ∧ w36.cell? ⟨(ad216.add ((x4_1).toNat * 3)).block, (ad216.add ((x4_1).toNat * 3)).off + 1, none⟩ = some (.int .i64 ((rd_T23 l0_3 x4_1).f1)) ∧ w36.cell? ⟨(ad216.add ((x4_1).toNat * 3)).block, (ad216.add ((x4_1).toNat * 3)).off + 2, none⟩ = some (.int .u8 ((rd_T23 l0_3 x4_1).f2)) ∧ w36.cell? (ad216.add ((x4_1).toNat * 3)) = some (.int .i64 ((rd_T23 l0_3 x4_1).f0)) ∧ w36.cell? ⟨(ad216.add ((x4_1).toNat * 3)).block, (ad216.add ((x4_1).toNat * 3)).off + 1, none⟩ = some (.int .i64 ((rd_T23 l0_3 x4_1).f1)) ∧ w36.cell? ⟨(ad216.add ((x4_1).toNat * 3)).block, (ad216.add ((x4_1).toNat * 3)).off + 2, none⟩ = some (.int .u8 ((rd_T23 l0_3 x4_1).f2)) := hS_
                         refine norm_ (a' := ?_) ?_ ?_
                         rotate_left
                         ·simp only [putAll, Act.put, List.setIfInBounds_toArray, List.set_cons_zero, List.set_cons_succ]
                          rfl
                         refine one_ (i := 7) (N := some 38) #[true, true, true, true, true, true, true, true, false, false, true, true, true, true, true, true, false, false, false, true, true, true, true, true, true, true, true, false, false, false] rfl rfl (one_of HT_.out (by kernel_rfl)) (by decide) (fun K hK => ?_)
                         refine gq_ Tryz.func41 (by kernel_rfl) rfl #[.int .i64 ((rd_T23 l0_3 x4_1).f0)] (by rfl) rfl rfl ?_
                         with_reducible refine (salvorref1_Hex.calls k1 ((rd_T23 l0_3 x4_1).f0) t217 _ A22.out).mono ?_
                         rintro e w' ⟨rfl, ⟨nd, rfl⟩⟩
                         refine ⟨_, rfl, ?_⟩
                         refine hK.out _ _ ⟨(blk_cell BK209.out 0).trans rfl, (blk_cell BK209.out 1).trans rfl, (blk_cell BK209.out 2).trans rfl, (blk_cell BK209.out 3).trans rfl, ((HB.out.cell (World.block_lt_of_cell? w _ hw216_0)).trans hw216_0), ((HB.out.cell (World.block_lt_of_cell? w _ hw216_1)).trans hw216_1), ((HB.out.cell (World.block_lt_of_cell? w _ hw216_2)).trans hw216_2), ((HB.out.cell (World.block_lt_of_cell? w _ hw218_0)).trans hw218_0), ((HB.out.cell (World.block_lt_of_cell? w _ hw218_1)).trans hw218_1), ((HB.out.cell (World.block_lt_of_cell? w _ hw218_2)).trans hw218_2), ((HB.out.cell (World.block_lt_of_cell? w _ hw220_0)).trans hw220_0), ((HB.out.cell (World.block_lt_of_cell? w _ hw220_1)).trans hw220_1), ((HB.out.cell (World.block_lt_of_cell? w _ hw220_2)).trans hw220_2)⟩ (fun hHeld => ?_)
                         clear hK K
                         refine nm_ 38 ?_
                         refine pu_ 8 39 (lb_ 30 133758463) rfl rfl (ao_ HT_) ?_
                         refine pu_ 9 40 (lb_ 30 133758975) rfl rfl (ao_ HT_) ?_
                         exact norm_ (by first | (simp only [putAll, Act.put, List.setIfInBounds_toArray, List.set_cons_zero, List.set_cons_succ]; done) | (simp only [putAll, Act.put, List.setIfInBounds_toArray, List.set_cons_zero, List.set_cons_succ]; rfl)) (hJ7_25_26 (v222) _ ⟨hHeld, (by (with_reducible repeat (first | apply Kd.R_alloc | apply Kd.R_drewN | apply Kd.R_drew)); exact HO223.out), (bq_ BK209), (bh_ HB)⟩)
                       ·skip
                        rintro v222 w35 ⟨hS_, h0_, h1_, h2_⟩
                        have n0_ : Aside0 (Kd.R (Kd.int .u8) 5 w35 w.heap.size (fun _ => True) v222 y221) := ⟨h0_⟩
                        have n1_ : Aside0 (w35.heap[gb209]? = some (.cells #[.int .i64 a0_0, .int .i64 a0_1, .int .u8 a0_2, .slice (some ad216) l0_3.length c0_3] 26 (0, 0))) := ⟨h1_⟩
                        have n2_ : Aside0 (Below w.heap.size w w35) := ⟨h2_⟩
                        clear BK209
                        clear HB
                        clear h0_ h1_ h2_
                        have HO223 := n0_
                        have BK209 := n1_
                        have HB := n2_
                        clear n0_ n1_ n2_
                        have hHeld : w35.cell? ⟨gb209, 0, none⟩ = some (.int .i64 a0_0) ∧ w35.cell? ⟨gb209, 1, none⟩ = some (.int .i64 a0_1) ∧ w35.cell? ⟨gb209, 2, none⟩ = some (.int .u8 a0_2) ∧ w35.cell? ⟨gb209, 3, none⟩ = some (.slice (some ad216) l0_3.length c0_3) ∧ w35.cell? (ad216.add ((x4_1).toNat * 3)) = some (.int .i64 ((rd_T23 l0_3 x4_1).f0)) ∧ w35.cell? ⟨(ad216.add ((x4_1).toNat * 3)).block, (ad216.add ((x4_1).toNat * 3)).off + 1, none⟩ = some (.int .i64 ((rd_T23 l0_3 x4_1).f1)) ∧ w35.cell? ⟨(ad216.add ((x4_1).toNat * 3)).block, (ad216.add ((x4_1).toNat * 3)).off + 2, none⟩ = some (.int .u8 ((rd_T23 l0_3 x4_1).f2)) ∧ w35.cell? (ad216.add ((x4_1).toNat * 3)) = some (.int .i64 ((rd_T23 l0_3 x4_1).f0)) ∧ w35.cell? ⟨(ad216.add ((x4_1).toNat * 3)).block, (ad216.add ((x4_1).toNat * 3)).off + 1, none⟩ = some (.int .i64 ((rd_T23 l0_3 x4_1).f1)) ∧ w35.cell? ⟨(ad216.add ((x4_1).toNat * 3)).block, (ad216.add ((x4_1).toNat * 3)).off + 2, none⟩ = some (.int .u8 ((rd_T23 l0_3 x4_1).f2)) ∧ w35.cell? (ad216.add ((x4_1).toNat * 3)) = some (.int .i64 ((rd_T23 l0_3 x4_1).f0)) ∧ w35.cell? ⟨(ad216.add ((x4_1).toNat * 3)).block, (ad216.add ((x4_1).toNat * 3)).off + 1, none⟩ = some (.int .i64 ((rd_T23 l0_3 x4_1).f1)) ∧ w35.cell? ⟨(ad216.add ((x4_1).toNat * 3)).block, (ad216.add ((x4_1).toNat * 3)).off + 2, none⟩ = some (.int .u8 ((rd_T23 l0_3 x4_1).f2)) := hS_
                        refine norm_ (a' := ?_) ?_ ?_
                        rotate_left
                        ·simp only [putAll, Act.put, List.setIfInBounds_toArray, List.set_cons_zero, List.set_cons_succ]
                         rfl
                        refine two_ (i := 16) (j := 26) (Ni := some 47) (Nj := some 57) #[true, true, true, true, true, true, true, true, true, true, true, true, true, true, true, true, true, false, false, true, true, true, true, true, true, true, false, false, false, false] #[true, true, true, true, true, true, true, true, true, true, true, true, true, true, true, true, false, false, false, true, true, true, true, true, true, true, true, false, false, false] rfl rfl rfl rfl (two_of HT_.out (by kernel_rfl)) (by decide) (by decide) (fun K hK => ?_) (fun K hK => ?_)
                        ·skip
                         refine gq_ Tryz.func41 (by kernel_rfl) rfl #[.int .i64 ((rd_T23 l0_3 x4_1).f1)] (by rfl) rfl rfl ?_
                         with_reducible refine (salvorref1_Hex.calls k1 ((rd_T23 l0_3 x4_1).f1) t219 _ A25.out).mono ?_
                         rintro e w' ⟨rfl, ⟨nd, rfl⟩⟩
                         refine ⟨_, rfl, ?_⟩
                         refine hK.out _ _ ⟨(blk_cell BK209.out 0).trans rfl, (blk_cell BK209.out 1).trans rfl, (blk_cell BK209.out 2).trans rfl, (blk_cell BK209.out 3).trans rfl, ((HB.out.cell (World.block_lt_of_cell? w _ hw216_0)).trans hw216_0), ((HB.out.cell (World.block_lt_of_cell? w _ hw216_1)).trans hw216_1), ((HB.out.cell (World.block_lt_of_cell? w _ hw216_2)).trans hw216_2), ((HB.out.cell (World.block_lt_of_cell? w _ hw218_0)).trans hw218_0), ((HB.out.cell (World.block_lt_of_cell? w _ hw218_1)).trans hw218_1), ((HB.out.cell (World.block_lt_of_cell? w _ hw218_2)).trans hw218_2), ((HB.out.cell (World.block_lt_of_cell? w _ hw220_0)).trans hw220_0), ((HB.out.cell (World.block_lt_of_cell? w _ hw220_1)).trans hw220_1), ((HB.out.cell (World.block_lt_of_cell? w _ hw220_2)).trans hw220_2)⟩ (fun hHeld => ?_)
                         clear hK K
                         refine nm_ 47 ?_
                         refine pu_ 17 48 (lb_ 30 66846719) rfl rfl (ao_ HT_) ?_
                         refine pu_ 18 49 (lb_ 30 67108863) rfl rfl (ao_ HT_) ?_
                         exact norm_ (by first | (simp only [putAll, Act.put, List.setIfInBounds_toArray, List.set_cons_zero, List.set_cons_succ]; done) | (simp only [putAll, Act.put, List.setIfInBounds_toArray, List.set_cons_zero, List.set_cons_succ]; rfl)) (hJ7_16_25 (v222) _ ⟨hHeld, (by (with_reducible repeat (first | apply Kd.R_alloc | apply Kd.R_drewN | apply Kd.R_drew)); exact HO223.out), (bq_ BK209), (bh_ HB)⟩)
                        ·skip
                         have hcv36 := own_string (P := Tryz.prog) Tryz.underlying39 Tryz.underlying5 Tryz.underlying9 (Kd.own_of_R HO223.out)
                         refine value_ (w1 := ?_) (v := ?_) (by rfl) rfl ?_ ?_
                         rotate_left 2
                         ·go_simp
                          constructor
                          ·rfl
                          ·rfl
                         clear hcv36
                         refine hK.out _ _ ⟨(blk_cell BK209.out 0).trans rfl, (blk_cell BK209.out 1).trans rfl, (blk_cell BK209.out 2).trans rfl, (blk_cell BK209.out 3).trans rfl, ((HB.out.cell (World.block_lt_of_cell? w _ hw216_0)).trans hw216_0), ((HB.out.cell (World.block_lt_of_cell? w _ hw216_1)).trans hw216_1), ((HB.out.cell (World.block_lt_of_cell? w _ hw216_2)).trans hw216_2), ((HB.out.cell (World.block_lt_of_cell? w _ hw218_0)).trans hw218_0), ((HB.out.cell (World.block_lt_of_cell? w _ hw218_1)).trans hw218_1), ((HB.out.cell (World.block_lt_of_cell? w _ hw218_2)).trans hw218_2), ((HB.out.cell (World.block_lt_of_cell? w _ hw220_0)).trans hw220_0), ((HB.out.cell (World.block_lt_of_cell? w _ hw220_1)).trans hw220_1), ((HB.out.cell (World.block_lt_of_cell? w _ hw220_2)).trans hw220_2)⟩ (fun hHeld => ?_)
                         clear hK K
                         refine nm_ 57 ?_
                         exact norm_ (by first | (simp only [putAll, Act.put, List.setIfInBounds_toArray, List.set_cons_zero, List.set_cons_succ]; done) | (simp only [putAll, Act.put, List.setIfInBounds_toArray, List.set_cons_zero, List.set_cons_succ]; rfl)) (hJ7_25_26 (v222) _ ⟨hHeld, (by (with_reducible repeat (first | apply Kd.R_alloc | apply Kd.R_drewN | apply Kd.R_drew)); exact HO223.out), (bq_ BK209), (bh_ HB)⟩)
                      ·skip
                       rintro _ w33 ⟨hS_, h0_, h1_⟩
                       have n0_ : Aside0 (w33.heap[gb209]? = some (.cells #[.int .i64 a0_0, .int .i64 a0_1, .int .u8 a0_2, .slice (some ad216) l0_3.length c0_3] 26 (0, 0))) := ⟨h0_⟩
                       have n1_ : Aside0 (Below w.heap.size w w33) := ⟨h1_⟩
                       clear BK209
                       clear HB
                       clear h0_ h1_
                       have BK209 := n0_
                       have HB := n1_
                       clear n0_ n1_
                       have hHeld : w33.cell? ⟨gb209, 0, none⟩ = some (.int .i64 a0_0) ∧ w33.cell? ⟨gb209, 1, none⟩ = some (.int .i64 a0_1) ∧ w33.cell? ⟨gb209, 2, none⟩ = some (.int .u8 a0_2) ∧ w33.cell? ⟨gb209, 3, none⟩ = some (.slice (some ad216) l0_3.length c0_3) ∧ w33.cell? (ad216.add ((x4_1).toNat * 3)) = some (.int .i64 ((rd_T23 l0_3 x4_1).f0)) ∧ w33.cell? ⟨(ad216.add ((x4_1).toNat * 3)).block, (ad216.add ((x4_1).toNat * 3)).off + 1, none⟩ = some (.int .i64 ((rd_T23 l0_3 x4_1).f1)) ∧ w33.cell? ⟨(ad216.add ((x4_1).toNat * 3)).block, (ad216.add ((x4_1).toNat * 3)).off + 2, none⟩ = some (.int .u8 ((rd_T23 l0_3 x4_1).f2)) ∧ w33.cell? (ad216.add ((x4_1).toNat * 3)) = some (.int .i64 ((rd_T23 l0_3 x4_1).f0)) ∧ w33.cell? ⟨(ad216.add ((x4_1).toNat * 3)).block, (ad216.add ((x4_1).toNat * 3)).off + 1, none⟩ = some (.int .i64 ((rd_T23 l0_3 x4_1).f1)) ∧ w33.cell? ⟨(ad216.add ((x4_1).toNat * 3)).block, (ad216.add ((x4_1).toNat * 3)).off + 2, none⟩ = some (.int .u8 ((rd_T23 l0_3 x4_1).f2)) ∧ w33.cell? (ad216.add ((x4_1).toNat * 3)) = some (.int .i64 ((rd_T23 l0_3 x4_1).f0)) ∧ w33.cell? ⟨(ad216.add ((x4_1).toNat * 3)).block, (ad216.add ((x4_1).toNat * 3)).off + 1, none⟩ = some (.int .i64 ((rd_T23 l0_3 x4_1).f1)) ∧ w33.cell? ⟨(ad216.add ((x4_1).toNat * 3)).block, (ad216.add ((x4_1).toNat * 3)).off + 2, none⟩ = some (.int .u8 ((rd_T23 l0_3 x4_1).f2)) := hS_
                       refine norm_ (a' := ?_) ?_ ?_
                       rotate_left
                       ·simp only [putAll, Act.put, List.setIfInBounds_toArray, List.set_cons_zero, List.set_cons_succ]
                        rfl
                       refine one_ (i := 25) (N := some 56) #[true, true, true, true, true, true, true, true, true, true, true, true, true, true, true, true, true, true, true, true, true, true, true, true, true, true, false, false, false, false] rfl rfl (one_of HT_.out (by kernel_rfl)) (by decide) (fun K hK => ?_)
                       refine Kd.R_lit_step (Kd.int .u8) _ 5 ?hg (N := 56) ?hd (xs := ([(rd_T23 l0_3 x4_1).f2] : List Int)) (inner := [.int .u8 ((rd_T23 l0_3 x4_1).f2)]) (ok := fun _ => True) (okp := fun _ => True) ?hr ?hp (fun _ hk => hk) trivial (Below.refl _ _) (Nat.le_refl _) (by simp) ?_; (case hd => rfl); (case hg => rfl); (case hr => first | (go_simp; done) | (go_simp; rfl)); (case hp => exact (Reps.one (show Kd.M (Kd.int .u8) _ _ _ ((rd_T23 l0_3 x4_1).f2) [.int .u8 ((rd_T23 l0_3 x4_1).f2)] from rfl) (Reps.none _ _)))
                       intro v222 w34 ho35 hb hg_ hnew_
                       clear hg_ hnew_
                       (first | rw [← Ny221.out] at ho35 | (simp only [Int.reduceToNat] at ho35; rw [← Ny221.out] at ho35))
                       have HO223 := Aside0.mk (Kd.R_lower ho35 (below_size (bh_ HB)))
                       replace BK209 := bb_ BK209 hb
                       replace HB := bs_ HB hb
                       clear hb ho35
                       refine hK.out _ _ ⟨(blk_cell BK209.out 0).trans rfl, (blk_cell BK209.out 1).trans rfl, (blk_cell BK209.out 2).trans rfl, (blk_cell BK209.out 3).trans rfl, ((HB.out.cell (World.block_lt_of_cell? w _ hw216_0)).trans hw216_0), ((HB.out.cell (World.block_lt_of_cell? w _ hw216_1)).trans hw216_1), ((HB.out.cell (World.block_lt_of_cell? w _ hw216_2)).trans hw216_2), ((HB.out.cell (World.block_lt_of_cell? w _ hw218_0)).trans hw218_0), ((HB.out.cell (World.block_lt_of_cell? w _ hw218_1)).trans hw218_1), ((HB.out.cell (World.block_lt_of_cell? w _ hw218_2)).trans hw218_2), ((HB.out.cell (World.block_lt_of_cell? w _ hw220_0)).trans hw220_0), ((HB.out.cell (World.block_lt_of_cell? w _ hw220_1)).trans hw220_1), ((HB.out.cell (World.block_lt_of_cell? w _ hw220_2)).trans hw220_2)⟩ (fun hHeld => ?_)
                       clear hK K
                       refine nm_ 56 ?_
                       exact norm_ (by first | (simp only [putAll, Act.put, List.setIfInBounds_toArray, List.set_cons_zero, List.set_cons_succ]; done) | (simp only [putAll, Act.put, List.setIfInBounds_toArray, List.set_cons_zero, List.set_cons_succ]; rfl)) (hJ7_16_25 (v222) _ ⟨hHeld, (by (with_reducible repeat (first | apply Kd.R_alloc | apply Kd.R_drewN | apply Kd.R_drew)); exact HO223.out), (bq_ BK209), (bh_ HB)⟩)
                     ·skip
                      rintro v222 w36 ⟨hS_, h0_, h1_, h2_⟩
                      have n0_ : Aside0 (Kd.R (Kd.int .u8) 5 w36 w.heap.size (fun _ => True) v222 y221) := ⟨h0_⟩
                      have n1_ : Aside0 (w36.heap[gb209]? = some (.cells #[.int .i64 a0_0, .int .i64 a0_1, .int .u8 a0_2, .slice (some ad216) l0_3.length c0_3] 26 (0, 0))) := ⟨h1_⟩
                      have n2_ : Aside0 (Below w.heap.size w w36) := ⟨h2_⟩
                      clear BK209
                      clear HB
                      clear h0_ h1_ h2_
                      have HO223 := n0_
                      have BK209 := n1_
                      have HB := n2_
                      clear n0_ n1_ n2_
                      have hHeld : w36.cell? ⟨gb209, 0, none⟩ = some (.int .i64 a0_0) ∧ w36.cell? ⟨gb209, 1, none⟩ = some (.int .i64 a0_1) ∧ w36.cell? ⟨gb209, 2, none⟩ = some (.int .u8 a0_2) ∧ w36.cell? ⟨gb209, 3, none⟩ = some (.slice (some ad216) l0_3.length c0_3) ∧ w36.cell? (ad216.add ((x4_1).toNat * 3)) = some (.int .i64 ((rd_T23 l0_3 x4_1).f0)) ∧ w36.cell? ⟨(ad216.add ((x4_1).toNat * 3)).block, (ad216.add ((x4_1).toNat * 3)).off + 1, none⟩ = some (.int .i64 ((rd_T23 l0_3 x4_1).f1)) ∧ w36.cell? ⟨(ad216.add ((x4_1).toNat * 3)).block, (ad216.add ((x4_1).toNat * 3)).off + 2, none⟩ = some (.int .u8 ((rd_T23 l0_3 x4_1).f2)) ∧ w36.cell? (ad216.add ((x4_1).toNat * 3)) = some (.int .i64 ((rd_T23 l0_3 x4_1).f0)) ∧ w36.cell? ⟨(ad216.add ((x4_1).toNat * 3)).block, (ad216.add ((x4_1).toNat * 3)).off + 1, none⟩ = some (.int .i64 ((rd_T23 l0_3 x4_1).f1)) ∧ w36.cell? ⟨(ad216.add ((x4_1).toNat * 3)).block, (ad216.add ((x4_1).toNat * 3)).off + 2, none⟩ = some (.int .u8 ((rd_T23 l0_3 x4_1).f2)) ∧ w36.cell? (ad216.add ((x4_1).toNat * 3)) = some (.int .i64 ((rd_T23 l0_3 x4_1).f0)) ∧ w36.cell? ⟨(ad216.add ((x4_1).toNat * 3)).block, (ad216.add ((x4_1).toNat * 3)).off + 1, none⟩ = some (.int .i64 ((rd_T23 l0_3 x4_1).f1)) ∧ w36.cell? ⟨(ad216.add ((x4_1).toNat * 3)).block, (ad216.add ((x4_1).toNat * 3)).off + 2, none⟩ = some (.int .u8 ((rd_T23 l0_3 x4_1).f2)) := hS_
                      refine norm_ (a' := ?_) ?_ ?_
                      rotate_left
                      ·simp only [putAll, Act.put, List.setIfInBounds_toArray, List.set_cons_zero, List.set_cons_succ]
                       rfl
                      refine one_ (i := 16) (N := some 47) #[true, true, true, true, true, true, true, true, true, true, true, true, true, true, true, true, true, false, false, true, true, true, true, true, true, true, true, false, false, false] rfl rfl (one_of HT_.out (by kernel_rfl)) (by decide) (fun K hK => ?_)
                      refine gq_ Tryz.func41 (by kernel_rfl) rfl #[.int .i64 ((rd_T23 l0_3 x4_1).f1)] (by rfl) rfl rfl ?_
                      with_reducible refine (salvorref1_Hex.calls k1 ((rd_T23 l0_3 x4_1).f1) t219 _ A25.out).mono ?_
                      rintro e w' ⟨rfl, ⟨nd, rfl⟩⟩
                      refine ⟨_, rfl, ?_⟩
                      refine hK.out _ _ ⟨(blk_cell BK209.out 0).trans rfl, (blk_cell BK209.out 1).trans rfl, (blk_cell BK209.out 2).trans rfl, (blk_cell BK209.out 3).trans rfl, ((HB.out.cell (World.block_lt_of_cell? w _ hw216_0)).trans hw216_0), ((HB.out.cell (World.block_lt_of_cell? w _ hw216_1)).trans hw216_1), ((HB.out.cell (World.block_lt_of_cell? w _ hw216_2)).trans hw216_2), ((HB.out.cell (World.block_lt_of_cell? w _ hw218_0)).trans hw218_0), ((HB.out.cell (World.block_lt_of_cell? w _ hw218_1)).trans hw218_1), ((HB.out.cell (World.block_lt_of_cell? w _ hw218_2)).trans hw218_2), ((HB.out.cell (World.block_lt_of_cell? w _ hw220_0)).trans hw220_0), ((HB.out.cell (World.block_lt_of_cell? w _ hw220_1)).trans hw220_1), ((HB.out.cell (World.block_lt_of_cell? w _ hw220_2)).trans hw220_2)⟩ (fun hHeld => ?_)
                      clear hK K
                      refine nm_ 47 ?_
                      refine pu_ 17 48 (lb_ 30 133955583) rfl rfl (ao_ HT_) ?_
                      refine pu_ 18 49 (lb_ 30 134217727) rfl rfl (ao_ HT_) ?_
                      exact norm_ (by first | (simp only [putAll, Act.put, List.setIfInBounds_toArray, List.set_cons_zero, List.set_cons_succ]; done) | (simp only [putAll, Act.put, List.setIfInBounds_toArray, List.set_cons_zero, List.set_cons_succ]; rfl)) (hJ7_16_25_26 (v222) _ ⟨hHeld, (by (with_reducible repeat (first | apply Kd.R_alloc | apply Kd.R_drewN | apply Kd.R_drew)); exact HO223.out), (bq_ BK209), (bh_ HB)⟩)
                    ·skip
                     rintro v222 w35 ⟨hS_, h0_, h1_, h2_⟩
                     have n0_ : Aside0 (Kd.R (Kd.int .u8) 5 w35 w.heap.size (fun _ => True) v222 y221) := ⟨h0_⟩
                     have n1_ : Aside0 (w35.heap[gb209]? = some (.cells #[.int .i64 a0_0, .int .i64 a0_1, .int .u8 a0_2, .slice (some ad216) l0_3.length c0_3] 26 (0, 0))) := ⟨h1_⟩
                     have n2_ : Aside0 (Below w.heap.size w w35) := ⟨h2_⟩
                     clear BK209
                     clear HB
                     clear h0_ h1_ h2_
                     have HO223 := n0_
                     have BK209 := n1_
                     have HB := n2_
                     clear n0_ n1_ n2_
                     have hHeld : w35.cell? ⟨gb209, 0, none⟩ = some (.int .i64 a0_0) ∧ w35.cell? ⟨gb209, 1, none⟩ = some (.int .i64 a0_1) ∧ w35.cell? ⟨gb209, 2, none⟩ = some (.int .u8 a0_2) ∧ w35.cell? ⟨gb209, 3, none⟩ = some (.slice (some ad216) l0_3.length c0_3) ∧ w35.cell? (ad216.add ((x4_1).toNat * 3)) = some (.int .i64 ((rd_T23 l0_3 x4_1).f0)) ∧ w35.cell? ⟨(ad216.add ((x4_1).toNat * 3)).block, (ad216.add ((x4_1).toNat * 3)).off + 1, none⟩ = some (.int .i64 ((rd_T23 l0_3 x4_1).f1)) ∧ w35.cell? ⟨(ad216.add ((x4_1).toNat * 3)).block, (ad216.add ((x4_1).toNat * 3)).off + 2, none⟩ = some (.int .u8 ((rd_T23 l0_3 x4_1).f2)) ∧ w35.cell? (ad216.add ((x4_1).toNat * 3)) = some (.int .i64 ((rd_T23 l0_3 x4_1).f0)) ∧ w35.cell? ⟨(ad216.add ((x4_1).toNat * 3)).block, (ad216.add ((x4_1).toNat * 3)).off + 1, none⟩ = some (.int .i64 ((rd_T23 l0_3 x4_1).f1)) ∧ w35.cell? ⟨(ad216.add ((x4_1).toNat * 3)).block, (ad216.add ((x4_1).toNat * 3)).off + 2, none⟩ = some (.int .u8 ((rd_T23 l0_3 x4_1).f2)) ∧ w35.cell? (ad216.add ((x4_1).toNat * 3)) = some (.int .i64 ((rd_T23 l0_3 x4_1).f0)) ∧ w35.cell? ⟨(ad216.add ((x4_1).toNat * 3)).block, (ad216.add ((x4_1).toNat * 3)).off + 1, none⟩ = some (.int .i64 ((rd_T23 l0_3 x4_1).f1)) ∧ w35.cell? ⟨(ad216.add ((x4_1).toNat * 3)).block, (ad216.add ((x4_1).toNat * 3)).off + 2, none⟩ = some (.int .u8 ((rd_T23 l0_3 x4_1).f2)) := hS_
                     refine norm_ (a' := ?_) ?_ ?_
                     rotate_left
                     ·simp only [putAll, Act.put, List.setIfInBounds_toArray, List.set_cons_zero, List.set_cons_succ]
                      rfl
                     refine one_ (i := 26) (N := some 57) #[true, true, true, true, true, true, true, true, true, true, true, true, true, true, true, true, true, true, true, true, true, true, true, true, true, true, true, false, false, false] rfl rfl (one_of HT_.out (by kernel_rfl)) (by decide) (fun K hK => ?_)
                     have hcv36 := own_string (P := Tryz.prog) Tryz.underlying39 Tryz.underlying5 Tryz.underlying9 (Kd.own_of_R HO223.out)
                     refine value_ (w1 := ?_) (v := ?_) (by rfl) rfl ?_ ?_
                     rotate_left 2
                     ·go_simp
                      constructor
                      ·rfl
                      ·rfl
                     clear hcv36
                     refine hK.out _ _ ⟨(blk_cell BK209.out 0).trans rfl, (blk_cell BK209.out 1).trans rfl, (blk_cell BK209.out 2).trans rfl, (blk_cell BK209.out 3).trans rfl, ((HB.out.cell (World.block_lt_of_cell? w _ hw216_0)).trans hw216_0), ((HB.out.cell (World.block_lt_of_cell? w _ hw216_1)).trans hw216_1), ((HB.out.cell (World.block_lt_of_cell? w _ hw216_2)).trans hw216_2), ((HB.out.cell (World.block_lt_of_cell? w _ hw218_0)).trans hw218_0), ((HB.out.cell (World.block_lt_of_cell? w _ hw218_1)).trans hw218_1), ((HB.out.cell (World.block_lt_of_cell? w _ hw218_2)).trans hw218_2), ((HB.out.cell (World.block_lt_of_cell? w _ hw220_0)).trans hw220_0), ((HB.out.cell (World.block_lt_of_cell? w _ hw220_1)).trans hw220_1), ((HB.out.cell (World.block_lt_of_cell? w _ hw220_2)).trans hw220_2)⟩ (fun hHeld => ?_)
                     clear hK K
                     refine nm_ 57 ?_
                     exact norm_ (by first | (simp only [putAll, Act.put, List.setIfInBounds_toArray, List.set_cons_zero, List.set_cons_succ]; done) | (simp only [putAll, Act.put, List.setIfInBounds_toArray, List.set_cons_zero, List.set_cons_succ]; rfl)) (hJ7_16_25_26 (v222) _ ⟨hHeld, (by (with_reducible repeat (first | apply Kd.R_alloc | apply Kd.R_drewN | apply Kd.R_drew)); exact HO223.out), (bq_ BK209), (bh_ HB)⟩)
                   rintro v222 w36 ⟨hS_, h0_, h1_, h2_⟩
                   have n0_ : Aside0 (Kd.R (Kd.int .u8) 5 w36 w.heap.size (fun _ => True) v222 y221) := ⟨h0_⟩
                   have n1_ : Aside0 (w36.heap[gb209]? = some (.cells #[.int .i64 a0_0, .int .i64 a0_1, .int .u8 a0_2, .slice (some ad216) l0_3.length c0_3] 26 (0, 0))) := ⟨h1_⟩
                   have n2_ : Aside0 (Below w.heap.size w w36) := ⟨h2_⟩
                   clear BK209
                   clear HB
                   clear h0_ h1_ h2_
                   have HO223 := n0_
                   have BK209 := n1_
                   have HB := n2_
                   clear n0_ n1_ n2_
                   have hHeld : w36.cell? ⟨gb209, 0, none⟩ = some (.int .i64 a0_0) ∧ w36.cell? ⟨gb209, 1, none⟩ = some (.int .i64 a0_1) ∧ w36.cell? ⟨gb209, 2, none⟩ = some (.int .u8 a0_2) ∧ w36.cell? ⟨gb209, 3, none⟩ = some (.slice (some ad216) l0_3.length c0_3) ∧ w36.cell? (ad216.add ((x4_1).toNat * 3)) = some (.int .i64 ((rd_T23 l0_3 x4_1).f0)) ∧ w36.cell? ⟨(ad216.add ((x4_1).toNat * 3)).block, (ad216.add ((x4_1).toNat * 3)).off + 1, none⟩ = some (.int .i64 ((rd_T23 l0_3 x4_1).f1)) ∧ w36.cell? ⟨(ad216.add ((x4_1).toNat * 3)).block, (ad216.add ((x4_1).toNat * 3)).off + 2, none⟩ = some (.int .u8 ((rd_T23 l0_3 x4_1).f2)) ∧ w36.cell? (ad216.add ((x4_1).toNat * 3)) = some (.int .i64 ((rd_T23 l0_3 x4_1).f0)) ∧ w36.cell? ⟨(ad216.add ((x4_1).toNat * 3)).block, (ad216.add ((x4_1).toNat * 3)).off + 1, none⟩ = some (.int .i64 ((rd_T23 l0_3 x4_1).f1)) ∧ w36.cell? ⟨(ad216.add ((x4_1).toNat * 3)).block, (ad216.add ((x4_1).toNat * 3)).off + 2, none⟩ = some (.int .u8 ((rd_T23 l0_3 x4_1).f2)) ∧ w36.cell? (ad216.add ((x4_1).toNat * 3)) = some (.int .i64 ((rd_T23 l0_3 x4_1).f0)) ∧ w36.cell? ⟨(ad216.add ((x4_1).toNat * 3)).block, (ad216.add ((x4_1).toNat * 3)).off + 1, none⟩ = some (.int .i64 ((rd_T23 l0_3 x4_1).f1)) ∧ w36.cell? ⟨(ad216.add ((x4_1).toNat * 3)).block, (ad216.add ((x4_1).toNat * 3)).off + 2, none⟩ = some (.int .u8 ((rd_T23 l0_3 x4_1).f2)) := hS_
                   refine norm_ (a' := ?_) ?_ ?_
                   rotate_left
                   ·simp only [putAll, Act.put, List.setIfInBounds_toArray, List.set_cons_zero, List.set_cons_succ]
                    rfl
                   refine pu_ 27 58 (lb_ 30 268435455) rfl rfl (ao_ HT_) ?_
                   refine pu_ 28 59 (lb_ 30 536870911) rfl rfl (ao_ HT_) ?_
                   refine pu_ 29 3 (lb_ 30 1073741823) rfl rfl (ao_ HT_) ?_
                   refine done_ (done_of HT_.out (by kernel_rfl)) ?_
                   obtain ⟨yL, hyL⟩ : ∃ y_ : ByteArray, y_ = ((((((x3_1 ++ t217) ++ (⟨#[32]⟩ : ByteArray)) ++ t219) ++ (⟨#[32]⟩ : ByteArray)) ++ (strOfNums y221)) ++ (⟨#[10]⟩ : ByteArray)) := ⟨_, rfl⟩
                   rw [← hyL] at c30b0 c30b1
                   rw [← hyL]
                   (try clear c10b0); (try clear c10b1); (try clear c10b2); (try clear c10b3); (try clear c11b0); (try clear c11b1); (try clear c11b2); (try clear c11b3); (try clear c20b0); (try clear c21b0); (try clear c23b0); (try clear c23b1); (try clear c23b2); (try clear c24b0); (try clear c24b1); (try clear c24b2); (try clear c24b3); (try clear c26b0); (try clear c26b1); (try clear c26b2); (try clear c26b3); (try clear c27b0); (try clear c27b1); (try clear c27b2); (try clear c27b3); (try clear c28b0); (try clear c28b1); (try clear c28b2); (try clear c28b3); (try clear c29); (try clear c29b0); (try clear c29b1); (try clear c29b2); (try clear c29b3); (try clear c5b0); (try clear c5b1); (try clear c5b2); (try clear c6b0); (try clear c6b1); (try clear c6b2); (try clear c6b3); (try clear c7b0); (try clear c7b1); (try clear c7b2); (try clear c7b3); (try clear c8b0); (try clear c8b1); (try clear c8b2); (try clear c8b3)
                   have HyL := Aside0.mk hyL
                   clear hyL
                   go_wp2
                   have hyL := HyL.out
                   clear HyL
                   subst hyL
                   go_ret
                   exact ⟨by first | rfl | (simp [errW_none, errW_some] <;> rfl) | (simp [*, errW_none, errW_some] <;> rfl), bh_ HB⟩
                  ·rw [if_neg c30] at H
                   have c30b0 : decide (40000 < (((((((x3_1 ++ t217) ++ (⟨#[32]⟩ : ByteArray)) ++ t219) ++ (⟨#[32]⟩ : ByteArray)) ++ (strOfNums y221)) ++ (⟨#[10]⟩ : ByteArray)).size : Int)) = false := decide_eq_false c30
                   have c30b1 : decide (40000 < ((((((x3_1 ++ t217) ++ (⟨#[32]⟩ : ByteArray)) ++ t219) ++ (⟨#[32]⟩ : ByteArray)) ++ (strOfNums y221)) ++ (⟨#[10]⟩ : ByteArray)).size) = false := decide_eq_false (by omega)
                   clear c30
                   have H' := Aside0.mk H
                   clear H
                   obtain ⟨hcz37_0, hcz37_1, hcz37_2, hcz37_3, hfz37_0, hfz37_1, hfz37_2, hfz37_3⟩ := c4_ BK209
                   try go_wp2
                   replace BK209 := Aside0.mk (blk_drew BK209.out)
                   replace HB := Aside0.mk (below_drew1 HB.out)
                   have p216 : 0 ≤ (x4_1 : Int) := of_decide_eq_true (by first | (with_reducible assumption) | assumption)
                   have q216 : x4_1 < (l0_3.length : Int) := of_decide_eq_true (by first | (with_reducible assumption) | assumption)
                   obtain ⟨ad216, e216, hx216_0, hx216_1, hx216_2⟩ := at_T23 HR0_3.out x4_1 p216 q216
                   have hw216_2 := hx216_2
                   have hw216_1 := hx216_1
                   have hw216_0 := hx216_0
                   cases e216
                   replace hx216_0 := (HB.out.cell (World.block_lt_of_cell? w _ hx216_0)).trans hx216_0
                   replace hx216_1 := (HB.out.cell (World.block_lt_of_cell? w _ hx216_1)).trans hx216_1
                   replace hx216_2 := (HB.out.cell (World.block_lt_of_cell? w _ hx216_2)).trans hx216_2
                   replace p216 := eq_true p216
                   replace q216 := eq_true q216
                   have p218 : 0 ≤ (x4_1 : Int) := of_decide_eq_true (by first | (with_reducible assumption) | assumption)
                   have q218 : x4_1 < (l0_3.length : Int) := of_decide_eq_true (by first | (with_reducible assumption) | assumption)
                   obtain ⟨ad218, e218, hx218_0, hx218_1, hx218_2⟩ := at_T23 HR0_3.out x4_1 p218 q218
                   have hw218_2 := hx218_2
                   have hw218_1 := hx218_1
                   have hw218_0 := hx218_0
                   obtain rfl : ad216 = ad218 := (by injection e218)
                   replace hx218_0 := (HB.out.cell (World.block_lt_of_cell? w _ hx218_0)).trans hx218_0
                   replace hx218_1 := (HB.out.cell (World.block_lt_of_cell? w _ hx218_1)).trans hx218_1
                   replace hx218_2 := (HB.out.cell (World.block_lt_of_cell? w _ hx218_2)).trans hx218_2
                   replace p218 := eq_true p218
                   replace q218 := eq_true q218
                   have p220 : 0 ≤ (x4_1 : Int) := of_decide_eq_true (by first | (with_reducible assumption) | assumption)
                   have q220 : x4_1 < (l0_3.length : Int) := of_decide_eq_true (by first | (with_reducible assumption) | assumption)
                   obtain ⟨ad220, e220, hx220_0, hx220_1, hx220_2⟩ := at_T23 HR0_3.out x4_1 p220 q220
                   have hw220_2 := hx220_2
                   have hw220_1 := hx220_1
                   have hw220_0 := hx220_0
                   obtain rfl : ad216 = ad220 := (by injection e220)
                   replace hx220_0 := (HB.out.cell (World.block_lt_of_cell? w _ hx220_0)).trans hx220_0
                   replace hx220_1 := (HB.out.cell (World.block_lt_of_cell? w _ hx220_1)).trans hx220_1
                   replace hx220_2 := (HB.out.cell (World.block_lt_of_cell? w _ hx220_2)).trans hx220_2
                   replace p220 := eq_true p220
                   replace q220 := eq_true q220
                   refine start_ (n := 30) (S := fun w' => w'.cell? ⟨gb209, 0, none⟩ = some (.int .i64 a0_0) ∧ w'.cell? ⟨gb209, 1, none⟩ = some (.int .i64 a0_1) ∧ w'.cell? ⟨gb209, 2, none⟩ = some (.int .u8 a0_2) ∧ w'.cell? ⟨gb209, 3, none⟩ = some (.slice (some ad216) l0_3.length c0_3) ∧ w'.cell? (ad216.add ((x4_1).toNat * 3)) = some (.int .i64 ((rd_T23 l0_3 x4_1).f0)) ∧ w'.cell? ⟨(ad216.add ((x4_1).toNat * 3)).block, (ad216.add ((x4_1).toNat * 3)).off + 1, none⟩ = some (.int .i64 ((rd_T23 l0_3 x4_1).f1)) ∧ w'.cell? ⟨(ad216.add ((x4_1).toNat * 3)).block, (ad216.add ((x4_1).toNat * 3)).off + 2, none⟩ = some (.int .u8 ((rd_T23 l0_3 x4_1).f2)) ∧ w'.cell? (ad216.add ((x4_1).toNat * 3)) = some (.int .i64 ((rd_T23 l0_3 x4_1).f0)) ∧ w'.cell? ⟨(ad216.add ((x4_1).toNat * 3)).block, (ad216.add ((x4_1).toNat * 3)).off + 1, none⟩ = some (.int .i64 ((rd_T23 l0_3 x4_1).f1)) ∧ w'.cell? ⟨(ad216.add ((x4_1).toNat * 3)).block, (ad216.add ((x4_1).toNat * 3)).off + 2, none⟩ = some (.int .u8 ((rd_T23 l0_3 x4_1).f2)) ∧ w'.cell? (ad216.add ((x4_1).toNat * 3)) = some (.int .i64 ((rd_T23 l0_3 x4_1).f0)) ∧ w'.cell? ⟨(ad216.add ((x4_1).toNat * 3)).block, (ad216.add ((x4_1).toNat * 3)).off + 1, none⟩ = some (.int .i64 ((rd_T23 l0_3 x4_1).f1)) ∧ w'.cell? ⟨(ad216.add ((x4_1).toNat * 3)).block, (ad216.add ((x4_1).toNat * 3)).off + 2, none⟩ = some (.int .u8 ((rd_T23 l0_3 x4_1).f2))) (ds := []) #[false, false, false, false, false, false, false, false, false, false, false, false, false, false, false, false, false, false, false, false, false, false, false, false, false, false, false, false, false, false] (by kernel_rfl) rfl rfl ⟨(blk_cell BK209.out 0).trans rfl, (blk_cell BK209.out 1).trans rfl, (blk_cell BK209.out 2).trans rfl, (blk_cell BK209.out 3).trans rfl, ((HB.out.cell (World.block_lt_of_cell? w _ hw216_0)).trans hw216_0), ((HB.out.cell (World.block_lt_of_cell? w _ hw216_1)).trans hw216_1), ((HB.out.cell (World.block_lt_of_cell? w _ hw216_2)).trans hw216_2), ((HB.out.cell (World.block_lt_of_cell? w _ hw218_0)).trans hw218_0), ((HB.out.cell (World.block_lt_of_cell? w _ hw218_1)).trans hw218_1), ((HB.out.cell (World.block_lt_of_cell? w _ hw218_2)).trans hw218_2), ((HB.out.cell (World.block_lt_of_cell? w _ hw220_0)).trans hw220_0), ((HB.out.cell (World.block_lt_of_cell? w _ hw220_1)).trans hw220_1), ((HB.out.cell (World.block_lt_of_cell? w _ hw220_2)).trans hw220_2)⟩ (fun hHeld => ?_); refine with_tabW salvorref16_Print.tab7 salvorref16_Print.bits7 (fun HT_ HW_ => ?_)
                   generalize wr.drew = w38 at BK209 HB hx216_0 hx216_1 hx216_2 hx218_0 hx218_1 hx218_2 hx220_0 hx220_1 hx220_2 hHeld ⊢
                   refine pu_ 0 31 (lb_ 30 1) rfl rfl (ao_ HT_) ?_
                   refine pu_ 1 32 (lb_ 30 3) rfl rfl (ao_ HT_) ?_
                   refine pu_ 3 34 (lb_ 30 11) rfl rfl (ao_ HT_) ?_
                   refine pu_ 10 41 (lb_ 30 1035) rfl rfl (ao_ HT_) ?_
                   refine pu_ 12 43 (lb_ 30 5131) rfl rfl (ao_ HT_) ?_
                   refine pu_ 19 50 (lb_ 30 529419) rfl rfl (ao_ HT_) ?_
                   refine pu_ 21 52 (lb_ 30 2626571) rfl rfl (ao_ HT_) ?_
                   refine tk_ 2 33 (lb_ 30 2626575) rfl rfl (take_ofW HT_.out HW_.out (by kernel_rfl)) hHeld ?_
                   refine pu_ 4 35 (lb_ 30 2626591) rfl rfl (ao_ HT_) ?_
                   refine pu_ 5 36 (lb_ 30 2626623) rfl rfl (ao_ HT_) ?_
                   refine tk_ 6 37 (lb_ 30 2626687) rfl rfl (take_ofW HT_.out HW_.out (by kernel_rfl)) hHeld ?_
                   refine tk_ 11 42 (lb_ 30 2628735) rfl rfl (take_ofW HT_.out HW_.out (by kernel_rfl)) hHeld ?_
                   refine pu_ 13 44 (lb_ 30 2636927) rfl rfl (ao_ HT_) ?_
                   refine pu_ 14 45 (lb_ 30 2653311) rfl rfl (ao_ HT_) ?_
                   refine tk_ 15 46 (lb_ 30 2686079) rfl rfl (take_ofW HT_.out HW_.out (by kernel_rfl)) hHeld ?_
                   refine tk_ 20 51 (lb_ 30 3734655) rfl rfl (take_ofW HT_.out HW_.out (by kernel_rfl)) hHeld ?_
                   refine pu_ 22 53 (lb_ 30 7928959) rfl rfl (ao_ HT_) ?_
                   refine pu_ 23 54 (lb_ 30 16317567) rfl rfl (ao_ HT_) ?_
                   refine tk_ 24 55 (lb_ 30 33094783) rfl rfl (take_ofW HT_.out HW_.out (by kernel_rfl)) hHeld ?_
                   refine join_ (σ := Value) 3 #[true, true, true, true, true, true, true, true, true, true, true, true, true, true, true, true, true, true, true, true, true, true, true, true, true, true, true, false, false, false] (fun s_ => [(38, .string t217), (47, .string t219), (56, s_), (57, .string (strOfNums y221)), (39, .string (x3_1 ++ t217)), (40, .string ((x3_1 ++ t217) ++ (⟨#[32]⟩ : ByteArray))), (48, .string (((x3_1 ++ t217) ++ (⟨#[32]⟩ : ByteArray)) ++ t219)), (49, .string ((((x3_1 ++ t217) ++ (⟨#[32]⟩ : ByteArray)) ++ t219) ++ (⟨#[32]⟩ : ByteArray)))]) (fun s_ w' => (w'.cell? ⟨gb209, 0, none⟩ = some (.int .i64 a0_0) ∧ w'.cell? ⟨gb209, 1, none⟩ = some (.int .i64 a0_1) ∧ w'.cell? ⟨gb209, 2, none⟩ = some (.int .u8 a0_2) ∧ w'.cell? ⟨gb209, 3, none⟩ = some (.slice (some ad216) l0_3.length c0_3) ∧ w'.cell? (ad216.add ((x4_1).toNat * 3)) = some (.int .i64 ((rd_T23 l0_3 x4_1).f0)) ∧ w'.cell? ⟨(ad216.add ((x4_1).toNat * 3)).block, (ad216.add ((x4_1).toNat * 3)).off + 1, none⟩ = some (.int .i64 ((rd_T23 l0_3 x4_1).f1)) ∧ w'.cell? ⟨(ad216.add ((x4_1).toNat * 3)).block, (ad216.add ((x4_1).toNat * 3)).off + 2, none⟩ = some (.int .u8 ((rd_T23 l0_3 x4_1).f2)) ∧ w'.cell? (ad216.add ((x4_1).toNat * 3)) = some (.int .i64 ((rd_T23 l0_3 x4_1).f0)) ∧ w'.cell? ⟨(ad216.add ((x4_1).toNat * 3)).block, (ad216.add ((x4_1).toNat * 3)).off + 1, none⟩ = some (.int .i64 ((rd_T23 l0_3 x4_1).f1)) ∧ w'.cell? ⟨(ad216.add ((x4_1).toNat * 3)).block, (ad216.add ((x4_1).toNat * 3)).off + 2, none⟩ = some (.int .u8 ((rd_T23 l0_3 x4_1).f2)) ∧ w'.cell? (ad216.add ((x4_1).toNat * 3)) = some (.int .i64 ((rd_T23 l0_3 x4_1).f0)) ∧ w'.cell? ⟨(ad216.add ((x4_1).toNat * 3)).block, (ad216.add ((x4_1).toNat * 3)).off + 1, none⟩ = some (.int .i64 ((rd_T23 l0_3 x4_1).f1)) ∧ w'.cell? ⟨(ad216.add ((x4_1).toNat * 3)).block, (ad216.add ((x4_1).toNat * 3)).off + 2, none⟩ = some (.int .u8 ((rd_T23 l0_3 x4_1).f2))) ∧ (Kd.R (Kd.int .u8) 5 w' w.heap.size (fun _ => True) s_ y221) ∧ (w'.heap[gb209]? = some (.cells #[.int .i64 a0_0, .int .i64 a0_1, .int .u8 a0_2, .slice (some ad216) l0_3.length c0_3] 26 (0, 0))) ∧ (Below w.heap.size w w')) ?_ ?_
                   rotate_left
                   ·intro hJ7_16_25_26
                    refine join_ (σ := Value) 4 #[true, true, true, true, true, true, true, true, true, true, true, true, true, true, true, true, true, true, true, true, true, true, true, true, true, true, false, false, false, false] (fun s_ => [(38, .string t217), (47, .string t219), (56, s_), (39, .string (x3_1 ++ t217)), (40, .string ((x3_1 ++ t217) ++ (⟨#[32]⟩ : ByteArray))), (48, .string (((x3_1 ++ t217) ++ (⟨#[32]⟩ : ByteArray)) ++ t219)), (49, .string ((((x3_1 ++ t217) ++ (⟨#[32]⟩ : ByteArray)) ++ t219) ++ (⟨#[32]⟩ : ByteArray)))]) (fun s_ w' => (w'.cell? ⟨gb209, 0, none⟩ = some (.int .i64 a0_0) ∧ w'.cell? ⟨gb209, 1, none⟩ = some (.int .i64 a0_1) ∧ w'.cell? ⟨gb209, 2, none⟩ = some (.int .u8 a0_2) ∧ w'.cell? ⟨gb209, 3, none⟩ = some (.slice (some ad216) l0_3.length c0_3) ∧ w'.cell? (ad216.add ((x4_1).toNat * 3)) = some (.int .i64 ((rd_T23 l0_3 x4_1).f0)) ∧ w'.cell? ⟨(ad216.add ((x4_1).toNat * 3)).block, (ad216.add ((x4_1).toNat * 3)).off + 1, none⟩ = some (.int .i64 ((rd_T23 l0_3 x4_1).f1)) ∧ w'.cell? ⟨(ad216.add ((x4_1).toNat * 3)).block, (ad216.add ((x4_1).toNat * 3)).off + 2, none⟩ = some (.int .u8 ((rd_T23 l0_3 x4_1).f2)) ∧ w'.cell? (ad216.add ((x4_1).toNat * 3)) = some (.int .i64 ((rd_T23 l0_3 x4_1).f0)) ∧ w'.cell? ⟨(ad216.add ((x4_1).toNat * 3)).block, (ad216.add ((x4_1).toNat * 3)).off + 1, none⟩ = some (.int .i64 ((rd_T23 l0_3 x4_1).f1)) ∧ w'.cell? ⟨(ad216.add ((x4_1).toNat * 3)).block, (ad216.add ((x4_1).toNat * 3)).off + 2, none⟩ = some (.int .u8 ((rd_T23 l0_3 x4_1).f2)) ∧ w'.cell? (ad216.add ((x4_1).toNat * 3)) = some (.int .i64 ((rd_T23 l0_3 x4_1).f0)) ∧ w'.cell? ⟨(ad216.add ((x4_1).toNat * 3)).block, (ad216.add ((x4_1).toNat * 3)).off + 1, none⟩ = some (.int .i64 ((rd_T23 l0_3 x4_1).f1)) ∧ w'.cell? ⟨(ad216.add ((x4_1).toNat * 3)).block, (ad216.add ((x4_1).toNat * 3)).off + 2, none⟩ = some (.int .u8 ((rd_T23 l0_3 x4_1).f2))) ∧ (Kd.R (Kd.int .u8) 5 w' w.heap.size (fun _ => True) s_ y221) ∧ (w'.heap[gb209]? = some (.cells #[.int .i64 a0_0, .int .i64 a0_1, .int .u8 a0_2, .slice (some ad216) l0_3.length c0_3] 26 (0, 0))) ∧ (Below w.heap.size w w')) ?_ ?_
                    rotate_left
                    ·intro hJ7_16_25
                     refine join_ (σ := Value) 6 #[true, true, true, true, true, true, true, true, true, true, true, true, true, true, true, true, false, false, false, true, true, true, true, true, true, true, true, false, false, false] (fun s_ => [(38, .string t217), (56, s_), (57, .string (strOfNums y221)), (39, .string (x3_1 ++ t217)), (40, .string ((x3_1 ++ t217) ++ (⟨#[32]⟩ : ByteArray)))]) (fun s_ w' => (w'.cell? ⟨gb209, 0, none⟩ = some (.int .i64 a0_0) ∧ w'.cell? ⟨gb209, 1, none⟩ = some (.int .i64 a0_1) ∧ w'.cell? ⟨gb209, 2, none⟩ = some (.int .u8 a0_2) ∧ w'.cell? ⟨gb209, 3, none⟩ = some (.slice (some ad216) l0_3.length c0_3) ∧ w'.cell? (ad216.add ((x4_1).toNat * 3)) = some (.int .i64 ((rd_T23 l0_3 x4_1).f0)) ∧ w'.cell? ⟨(ad216.add ((x4_1).toNat * 3)).block, (ad216.add ((x4_1).toNat * 3)).off + 1, none⟩ = some (.int .i64 ((rd_T23 l0_3 x4_1).f1)) ∧ w'.cell? ⟨(ad216.add ((x4_1).toNat * 3)).block, (ad216.add ((x4_1).toNat * 3)).off + 2, none⟩ = some (.int .u8 ((rd_T23 l0_3 x4_1).f2)) ∧ w'.cell? (ad216.add ((x4_1).toNat * 3)) = some (.int .i64 ((rd_T23 l0_3 x4_1).f0)) ∧ w'.cell? ⟨(ad216.add ((x4_1).toNat * 3)).block, (ad216.add ((x4_1).toNat * 3)).off + 1, none⟩ = some (.int .i64 ((rd_T23 l0_3 x4_1).f1)) ∧ w'.cell? ⟨(ad216.add ((x4_1).toNat * 3)).block, (ad216.add ((x4_1).toNat * 3)).off + 2, none⟩ = some (.int .u8 ((rd_T23 l0_3 x4_1).f2)) ∧ w'.cell? (ad216.add ((x4_1).toNat * 3)) = some (.int .i64 ((rd_T23 l0_3 x4_1).f0)) ∧ w'.cell? ⟨(ad216.add ((x4_1).toNat * 3)).block, (ad216.add ((x4_1).toNat * 3)).off + 1, none⟩ = some (.int .i64 ((rd_T23 l0_3 x4_1).f1)) ∧ w'.cell? ⟨(ad216.add ((x4_1).toNat * 3)).block, (ad216.add ((x4_1).toNat * 3)).off + 2, none⟩ = some (.int .u8 ((rd_T23 l0_3 x4_1).f2))) ∧ (Kd.R (Kd.int .u8) 5 w' w.heap.size (fun _ => True) s_ y221) ∧ (w'.heap[gb209]? = some (.cells #[.int .i64 a0_0, .int .i64 a0_1, .int .u8 a0_2, .slice (some ad216) l0_3.length c0_3] 26 (0, 0))) ∧ (Below w.heap.size w w')) ?_ ?_
                     rotate_left
                     ·intro hJ7_25_26
                      refine join_ (σ := Unit) 5 #[true, true, true, true, true, true, true, true, true, true, true, true, true, true, true, true, true, true, true, true, true, true, true, true, true, false, false, false, false, false] (fun s_ => [(38, .string t217), (47, .string t219), (39, .string (x3_1 ++ t217)), (40, .string ((x3_1 ++ t217) ++ (⟨#[32]⟩ : ByteArray))), (48, .string (((x3_1 ++ t217) ++ (⟨#[32]⟩ : ByteArray)) ++ t219)), (49, .string ((((x3_1 ++ t217) ++ (⟨#[32]⟩ : ByteArray)) ++ t219) ++ (⟨#[32]⟩ : ByteArray)))]) (fun s_ w' => (w'.cell? ⟨gb209, 0, none⟩ = some (.int .i64 a0_0) ∧ w'.cell? ⟨gb209, 1, none⟩ = some (.int .i64 a0_1) ∧ w'.cell? ⟨gb209, 2, none⟩ = some (.int .u8 a0_2) ∧ w'.cell? ⟨gb209, 3, none⟩ = some (.slice (some ad216) l0_3.length c0_3) ∧ w'.cell? (ad216.add ((x4_1).toNat * 3)) = some (.int .i64 ((rd_T23 l0_3 x4_1).f0)) ∧ w'.cell? ⟨(ad216.add ((x4_1).toNat * 3)).block, (ad216.add ((x4_1).toNat * 3)).off + 1, none⟩ = some (.int .i64 ((rd_T23 l0_3 x4_1).f1)) ∧ w'.cell? ⟨(ad216.add ((x4_1).toNat * 3)).block, (ad216.add ((x4_1).toNat * 3)).off + 2, none⟩ = some (.int .u8 ((rd_T23 l0_3 x4_1).f2)) ∧ w'.cell? (ad216.add ((x4_1).toNat * 3)) = some (.int .i64 ((rd_T23 l0_3 x4_1).f0)) ∧ w'.cell? ⟨(ad216.add ((x4_1).toNat * 3)).block, (ad216.add ((x4_1).toNat * 3)).off + 1, none⟩ = some (.int .i64 ((rd_T23 l0_3 x4_1).f1)) ∧ w'.cell? ⟨(ad216.add ((x4_1).toNat * 3)).block, (ad216.add ((x4_1).toNat * 3)).off + 2, none⟩ = some (.int .u8 ((rd_T23 l0_3 x4_1).f2)) ∧ w'.cell? (ad216.add ((x4_1).toNat * 3)) = some (.int .i64 ((rd_T23 l0_3 x4_1).f0)) ∧ w'.cell? ⟨(ad216.add ((x4_1).toNat * 3)).block, (ad216.add ((x4_1).toNat * 3)).off + 1, none⟩ = some (.int .i64 ((rd_T23 l0_3 x4_1).f1)) ∧ w'.cell? ⟨(ad216.add ((x4_1).toNat * 3)).block, (ad216.add ((x4_1).toNat * 3)).off + 2, none⟩ = some (.int .u8 ((rd_T23 l0_3 x4_1).f2))) ∧ (w'.heap[gb209]? = some (.cells #[.int .i64 a0_0, .int .i64 a0_1, .int .u8 a0_2, .slice (some ad216) l0_3.length c0_3] 26 (0, 0))) ∧ (Below w.heap.size w w')) ?_ ?_
                      rotate_left
                      ·intro hJ7_16
                       refine join_ (σ := Value) 7 #[true, true, true, true, true, true, true, true, true, true, true, true, true, true, true, true, false, false, false, true, true, true, true, true, true, true, false, false, false, false] (fun s_ => [(38, .string t217), (56, s_), (39, .string (x3_1 ++ t217)), (40, .string ((x3_1 ++ t217) ++ (⟨#[32]⟩ : ByteArray)))]) (fun s_ w' => (w'.cell? ⟨gb209, 0, none⟩ = some (.int .i64 a0_0) ∧ w'.cell? ⟨gb209, 1, none⟩ = some (.int .i64 a0_1) ∧ w'.cell? ⟨gb209, 2, none⟩ = some (.int .u8 a0_2) ∧ w'.cell? ⟨gb209, 3, none⟩ = some (.slice (some ad216) l0_3.length c0_3) ∧ w'.cell? (ad216.add ((x4_1).toNat * 3)) = some (.int .i64 ((rd_T23 l0_3 x4_1).f0)) ∧ w'.cell? ⟨(ad216.add ((x4_1).toNat * 3)).block, (ad216.add ((x4_1).toNat * 3)).off + 1, none⟩ = some (.int .i64 ((rd_T23 l0_3 x4_1).f1)) ∧ w'.cell? ⟨(ad216.add ((x4_1).toNat * 3)).block, (ad216.add ((x4_1).toNat * 3)).off + 2, none⟩ = some (.int .u8 ((rd_T23 l0_3 x4_1).f2)) ∧ w'.cell? (ad216.add ((x4_1).toNat * 3)) = some (.int .i64 ((rd_T23 l0_3 x4_1).f0)) ∧ w'.cell? ⟨(ad216.add ((x4_1).toNat * 3)).block, (ad216.add ((x4_1).toNat * 3)).off + 1, none⟩ = some (.int .i64 ((rd_T23 l0_3 x4_1).f1)) ∧ w'.cell? ⟨(ad216.add ((x4_1).toNat * 3)).block, (ad216.add ((x4_1).toNat * 3)).off + 2, none⟩ = some (.int .u8 ((rd_T23 l0_3 x4_1).f2)) ∧ w'.cell? (ad216.add ((x4_1).toNat * 3)) = some (.int .i64 ((rd_T23 l0_3 x4_1).f0)) ∧ w'.cell? ⟨(ad216.add ((x4_1).toNat * 3)).block, (ad216.add ((x4_1).toNat * 3)).off + 1, none⟩ = some (.int .i64 ((rd_T23 l0_3 x4_1).f1)) ∧ w'.cell? ⟨(ad216.add ((x4_1).toNat * 3)).block, (ad216.add ((x4_1).toNat * 3)).off + 2, none⟩ = some (.int .u8 ((rd_T23 l0_3 x4_1).f2))) ∧ (Kd.R (Kd.int .u8) 5 w' w.heap.size (fun _ => True) s_ y221) ∧ (w'.heap[gb209]? = some (.cells #[.int .i64 a0_0, .int .i64 a0_1, .int .u8 a0_2, .slice (some ad216) l0_3.length c0_3] 26 (0, 0))) ∧ (Below w.heap.size w w')) ?_ ?_
                       rotate_left
                       ·intro hJ7_25
                        refine join_ (σ := Value) 9 #[true, true, true, true, true, true, true, false, false, false, true, true, true, true, true, true, false, false, false, true, true, true, true, true, true, true, true, false, false, false] (fun s_ => [(56, s_), (57, .string (strOfNums y221))]) (fun s_ w' => (w'.cell? ⟨gb209, 0, none⟩ = some (.int .i64 a0_0) ∧ w'.cell? ⟨gb209, 1, none⟩ = some (.int .i64 a0_1) ∧ w'.cell? ⟨gb209, 2, none⟩ = some (.int .u8 a0_2) ∧ w'.cell? ⟨gb209, 3, none⟩ = some (.slice (some ad216) l0_3.length c0_3) ∧ w'.cell? (ad216.add ((x4_1).toNat * 3)) = some (.int .i64 ((rd_T23 l0_3 x4_1).f0)) ∧ w'.cell? ⟨(ad216.add ((x4_1).toNat * 3)).block, (ad216.add ((x4_1).toNat * 3)).off + 1, none⟩ = some (.int .i64 ((rd_T23 l0_3 x4_1).f1)) ∧ w'.cell? ⟨(ad216.add ((x4_1).toNat * 3)).block, (ad216.add ((x4_1).toNat * 3)).off + 2, none⟩ = some (.int .u8 ((rd_T23 l0_3 x4_1).f2)) ∧ w'.cell? (ad216.add ((x4_1).toNat * 3)) = some (.int .i64 ((rd_T23 l0_3 x4_1).f0)) ∧ w'.cell? ⟨(ad216.add ((x4_1).toNat * 3)).block, (ad216.add ((x4_1).toNat * 3)).off + 1, none⟩ = some (.int .i64 ((rd_T23 l0_3 x4_1).f1)) ∧ w'.cell? ⟨(ad216.add ((x4_1).toNat * 3)).block, (ad216.add ((x4_1).toNat * 3)).off + 2, none⟩ = some (.int .u8 ((rd_T23 l0_3 x4_1).f2)) ∧ w'.cell? (ad216.add ((x4_1).toNat * 3)) = some (.int .i64 ((rd_T23 l0_3 x4_1).f0)) ∧ w'.cell? ⟨(ad216.add ((x4_1).toNat * 3)).block, (ad216.add ((x4_1).toNat * 3)).off + 1, none⟩ = some (.int .i64 ((rd_T23 l0_3 x4_1).f1)) ∧ w'.cell? ⟨(ad216.add ((x4_1).toNat * 3)).block, (ad216.add ((x4_1).toNat * 3)).off + 2, none⟩ = some (.int .u8 ((rd_T23 l0_3 x4_1).f2))) ∧ (Kd.R (Kd.int .u8) 5 w' w.heap.size (fun _ => True) s_ y221) ∧ (w'.heap[gb209]? = some (.cells #[.int .i64 a0_0, .int .i64 a0_1, .int .u8 a0_2, .slice (some ad216) l0_3.length c0_3] 26 (0, 0))) ∧ (Below w.heap.size w w')) ?_ ?_
                        rotate_left
                        ·intro hJ25_26
                         refine join_ (σ := Unit) 8 #[true, true, true, true, true, true, true, true, true, true, true, true, true, true, true, true, false, false, false, true, true, true, true, true, true, false, false, false, false, false] (fun s_ => [(38, .string t217), (39, .string (x3_1 ++ t217)), (40, .string ((x3_1 ++ t217) ++ (⟨#[32]⟩ : ByteArray)))]) (fun s_ w' => (w'.cell? ⟨gb209, 0, none⟩ = some (.int .i64 a0_0) ∧ w'.cell? ⟨gb209, 1, none⟩ = some (.int .i64 a0_1) ∧ w'.cell? ⟨gb209, 2, none⟩ = some (.int .u8 a0_2) ∧ w'.cell? ⟨gb209, 3, none⟩ = some (.slice (some ad216) l0_3.length c0_3) ∧ w'.cell? (ad216.add ((x4_1).toNat * 3)) = some (.int .i64 ((rd_T23 l0_3 x4_1).f0)) ∧ w'.cell? ⟨(ad216.add ((x4_1).toNat * 3)).block, (ad216.add ((x4_1).toNat * 3)).off + 1, none⟩ = some (.int .i64 ((rd_T23 l0_3 x4_1).f1)) ∧ w'.cell? ⟨(ad216.add ((x4_1).toNat * 3)).block, (ad216.add ((x4_1).toNat * 3)).off + 2, none⟩ = some (.int .u8 ((rd_T23 l0_3 x4_1).f2)) ∧ w'.cell? (ad216.add ((x4_1).toNat * 3)) = some (.int .i64 ((rd_T23 l0_3 x4_1).f0)) ∧ w'.cell? ⟨(ad216.add ((x4_1).toNat * 3)).block, (ad216.add ((x4_1).toNat * 3)).off + 1, none⟩ = some (.int .i64 ((rd_T23 l0_3 x4_1).f1)) ∧ w'.cell? ⟨(ad216.add ((x4_1).toNat * 3)).block, (ad216.add ((x4_1).toNat * 3)).off + 2, none⟩ = some (.int .u8 ((rd_T23 l0_3 x4_1).f2)) ∧ w'.cell? (ad216.add ((x4_1).toNat * 3)) = some (.int .i64 ((rd_T23 l0_3 x4_1).f0)) ∧ w'.cell? ⟨(ad216.add ((x4_1).toNat * 3)).block, (ad216.add ((x4_1).toNat * 3)).off + 1, none⟩ = some (.int .i64 ((rd_T23 l0_3 x4_1).f1)) ∧ w'.cell? ⟨(ad216.add ((x4_1).toNat * 3)).block, (ad216.add ((x4_1).toNat * 3)).off + 2, none⟩ = some (.int .u8 ((rd_T23 l0_3 x4_1).f2))) ∧ (w'.heap[gb209]? = some (.cells #[.int .i64 a0_0, .int .i64 a0_1, .int .u8 a0_2, .slice (some ad216) l0_3.length c0_3] 26 (0, 0))) ∧ (Below w.heap.size w w')) ?_ ?_
                         rotate_left
                         ·intro hJ7
                          refine join_ (σ := Value) 10 #[true, true, true, true, true, true, true, false, false, false, true, true, true, true, true, true, false, false, false, true, true, true, true, true, true, true, false, false, false, false] (fun s_ => [(56, s_)]) (fun s_ w' => (w'.cell? ⟨gb209, 0, none⟩ = some (.int .i64 a0_0) ∧ w'.cell? ⟨gb209, 1, none⟩ = some (.int .i64 a0_1) ∧ w'.cell? ⟨gb209, 2, none⟩ = some (.int .u8 a0_2) ∧ w'.cell? ⟨gb209, 3, none⟩ = some (.slice (some ad216) l0_3.length c0_3) ∧ w'.cell? (ad216.add ((x4_1).toNat * 3)) = some (.int .i64 ((rd_T23 l0_3 x4_1).f0)) ∧ w'.cell? ⟨(ad216.add ((x4_1).toNat * 3)).block, (ad216.add ((x4_1).toNat * 3)).off + 1, none⟩ = some (.int .i64 ((rd_T23 l0_3 x4_1).f1)) ∧ w'.cell? ⟨(ad216.add ((x4_1).toNat * 3)).block, (ad216.add ((x4_1).toNat * 3)).off + 2, none⟩ = some (.int .u8 ((rd_T23 l0_3 x4_1).f2)) ∧ w'.cell? (ad216.add ((x4_1).toNat * 3)) = some (.int .i64 ((rd_T23 l0_3 x4_1).f0)) ∧ w'.cell? ⟨(ad216.add ((x4_1).toNat * 3)).block, (ad216.add ((x4_1).toNat * 3)).off + 1, none⟩ = some (.int .i64 ((rd_T23 l0_3 x4_1).f1)) ∧ w'.cell? ⟨(ad216.add ((x4_1).toNat * 3)).block, (ad216.add ((x4_1).toNat * 3)).off + 2, none⟩ = some (.int .u8 ((rd_T23 l0_3 x4_1).f2)) ∧ w'.cell? (ad216.add ((x4_1).toNat * 3)) = some (.int .i64 ((rd_T23 l0_3 x4_1).f0)) ∧ w'.cell? ⟨(ad216.add ((x4_1).toNat * 3)).block, (ad216.add ((x4_1).toNat * 3)).off + 1, none⟩ = some (.int .i64 ((rd_T23 l0_3 x4_1).f1)) ∧ w'.cell? ⟨(ad216.add ((x4_1).toNat * 3)).block, (ad216.add ((x4_1).toNat * 3)).off + 2, none⟩ = some (.int .u8 ((rd_T23 l0_3 x4_1).f2))) ∧ (Kd.R (Kd.int .u8) 5 w' w.heap.size (fun _ => True) s_ y221) ∧ (w'.heap[gb209]? = some (.cells #[.int .i64 a0_0, .int .i64 a0_1, .int .u8 a0_2, .slice (some ad216) l0_3.length c0_3] 26 (0, 0))) ∧ (Below w.heap.size w w')) ?_ ?_
                          rotate_left
                          ·intro hJ25
                           refine two_ (i := 7) (j := 25) (Ni := some 38) (Nj := some 56) #[true, true, true, true, true, true, true, true, false, false, true, true, true, true, true, true, false, false, false, true, true, true, true, true, true, false, false, false, false, false] #[true, true, true, true, true, true, true, false, false, false, true, true, true, true, true, true, false, false, false, true, true, true, true, true, true, true, false, false, false, false] rfl rfl rfl rfl (two_of HT_.out (by kernel_rfl)) (by decide) (by decide) (fun K hK => ?_) (fun K hK => ?_)
                           ·skip
                            refine gq_ Tryz.func41 (by kernel_rfl) rfl #[.int .i64 ((rd_T23 l0_3 x4_1).f0)] (by rfl) rfl rfl ?_
                            with_reducible refine (salvorref1_Hex.calls k1 ((rd_T23 l0_3 x4_1).f0) t217 _ A22.out).mono ?_
                            rintro e w' ⟨rfl, ⟨nd, rfl⟩⟩
                            refine ⟨_, rfl, ?_⟩
                            refine hK.out _ _ ⟨(blk_cell BK209.out 0).trans rfl, (blk_cell BK209.out 1).trans rfl, (blk_cell BK209.out 2).trans rfl, (blk_cell BK209.out 3).trans rfl, ((HB.out.cell (World.block_lt_of_cell? w _ hw216_0)).trans hw216_0), ((HB.out.cell (World.block_lt_of_cell? w _ hw216_1)).trans hw216_1), ((HB.out.cell (World.block_lt_of_cell? w _ hw216_2)).trans hw216_2), ((HB.out.cell (World.block_lt_of_cell? w _ hw218_0)).trans hw218_0), ((HB.out.cell (World.block_lt_of_cell? w _ hw218_1)).trans hw218_1), ((HB.out.cell (World.block_lt_of_cell? w _ hw218_2)).trans hw218_2), ((HB.out.cell (World.block_lt_of_cell? w _ hw220_0)).trans hw220_0), ((HB.out.cell (World.block_lt_of_cell? w _ hw220_1)).trans hw220_1), ((HB.out.cell (World.block_lt_of_cell? w _ hw220_2)).trans hw220_2)⟩ (fun hHeld => ?_)
                            clear hK K
                            refine nm_ 38 ?_
                            refine pu_ 8 39 (lb_ 30 33095167) rfl rfl (ao_ HT_) ?_
                            refine pu_ 9 40 (lb_ 30 33095679) rfl rfl (ao_ HT_) ?_
                            exact norm_ (by first | (simp only [putAll, Act.put, List.setIfInBounds_toArray, List.set_cons_zero, List.set_cons_succ]; done) | (simp only [putAll, Act.put, List.setIfInBounds_toArray, List.set_cons_zero, List.set_cons_succ]; rfl)) (hJ7 () _ ⟨hHeld, (bq_ BK209), (bh_ HB)⟩)
                           ·skip
                            refine Kd.R_lit_step (Kd.int .u8) _ 5 ?hg (N := 56) ?hd (xs := ([(rd_T23 l0_3 x4_1).f2] : List Int)) (inner := [.int .u8 ((rd_T23 l0_3 x4_1).f2)]) (ok := fun _ => True) (okp := fun _ => True) ?hr ?hp (fun _ hk => hk) trivial (Below.refl _ _) (Nat.le_refl _) (by simp) ?_; (case hd => rfl); (case hg => rfl); (case hr => first | (go_simp; done) | (go_simp; rfl)); (case hp => exact (Reps.one (show Kd.M (Kd.int .u8) _ _ _ ((rd_T23 l0_3 x4_1).f2) [.int .u8 ((rd_T23 l0_3 x4_1).f2)] from rfl) (Reps.none _ _)))
                            intro v222 w39 ho40 hb hg_ hnew_
                            clear hg_ hnew_
                            (first | rw [← Ny221.out] at ho40 | (simp only [Int.reduceToNat] at ho40; rw [← Ny221.out] at ho40))
                            have HO223 := Aside0.mk (Kd.R_lower ho40 (below_size (bh_ HB)))
                            replace BK209 := bb_ BK209 hb
                            replace HB := bs_ HB hb
                            clear hb ho40
                            refine hK.out _ _ ⟨(blk_cell BK209.out 0).trans rfl, (blk_cell BK209.out 1).trans rfl, (blk_cell BK209.out 2).trans rfl, (blk_cell BK209.out 3).trans rfl, ((HB.out.cell (World.block_lt_of_cell? w _ hw216_0)).trans hw216_0), ((HB.out.cell (World.block_lt_of_cell? w _ hw216_1)).trans hw216_1), ((HB.out.cell (World.block_lt_of_cell? w _ hw216_2)).trans hw216_2), ((HB.out.cell (World.block_lt_of_cell? w _ hw218_0)).trans hw218_0), ((HB.out.cell (World.block_lt_of_cell? w _ hw218_1)).trans hw218_1), ((HB.out.cell (World.block_lt_of_cell? w _ hw218_2)).trans hw218_2), ((HB.out.cell (World.block_lt_of_cell? w _ hw220_0)).trans hw220_0), ((HB.out.cell (World.block_lt_of_cell? w _ hw220_1)).trans hw220_1), ((HB.out.cell (World.block_lt_of_cell? w _ hw220_2)).trans hw220_2)⟩ (fun hHeld => ?_)
                            clear hK K
                            refine nm_ 56 ?_
                            exact norm_ (by first | (simp only [putAll, Act.put, List.setIfInBounds_toArray, List.set_cons_zero, List.set_cons_succ]; done) | (simp only [putAll, Act.put, List.setIfInBounds_toArray, List.set_cons_zero, List.set_cons_succ]; rfl)) (hJ25 (v222) _ ⟨hHeld, (by (with_reducible repeat (first | apply Kd.R_alloc | apply Kd.R_drewN | apply Kd.R_drew)); exact HO223.out), (bq_ BK209), (bh_ HB)⟩)
                          ·skip
                           rintro v222 w41 ⟨hS_, h0_, h1_, h2_⟩
                           have n0_ : Aside0 (Kd.R (Kd.int .u8) 5 w41 w.heap.size (fun _ => True) v222 y221) := ⟨h0_⟩
                           have n1_ : Aside0 (w41.heap[gb209]? = some (.cells #[.int .i64 a0_0, .int .i64 a0_1, .int .u8 a0_2, .slice (some ad216) l0_3.length c0_3] 26 (0, 0))) := ⟨h1_⟩
                           have n2_ : Aside0 (Below w.heap.size w w41) := ⟨h2_⟩
                           clear BK209
                           clear HB
                           clear h0_ h1_ h2_
                           have HO223 := n0_
                           have BK209 := n1_
                           have HB := n2_
                           clear n0_ n1_ n2_
                           have hHeld : w41.cell? ⟨gb209, 0, none⟩ = some (.int .i64 a0_0) ∧ w41.cell? ⟨gb209, 1, none⟩ = some (.int .i64 a0_1) ∧ w41.cell? ⟨gb209, 2, none⟩ = some (.int .u8 a0_2) ∧ w41.cell? ⟨gb209, 3, none⟩ = some (.slice (some ad216) l0_3.length c0_3) ∧ w41.cell? (ad216.add ((x4_1).toNat * 3)) = some (.int .i64 ((rd_T23 l0_3 x4_1).f0)) ∧ w41.cell? ⟨(ad216.add ((x4_1).toNat * 3)).block, (ad216.add ((x4_1).toNat * 3)).off + 1, none⟩ = some (.int .i64 ((rd_T23 l0_3 x4_1).f1)) ∧ w41.cell? ⟨(ad216.add ((x4_1).toNat * 3)).block, (ad216.add ((x4_1).toNat * 3)).off + 2, none⟩ = some (.int .u8 ((rd_T23 l0_3 x4_1).f2)) ∧ w41.cell? (ad216.add ((x4_1).toNat * 3)) = some (.int .i64 ((rd_T23 l0_3 x4_1).f0)) ∧ w41.cell? ⟨(ad216.add ((x4_1).toNat * 3)).block, (ad216.add ((x4_1).toNat * 3)).off + 1, none⟩ = some (.int .i64 ((rd_T23 l0_3 x4_1).f1)) ∧ w41.cell? ⟨(ad216.add ((x4_1).toNat * 3)).block, (ad216.add ((x4_1).toNat * 3)).off + 2, none⟩ = some (.int .u8 ((rd_T23 l0_3 x4_1).f2)) ∧ w41.cell? (ad216.add ((x4_1).toNat * 3)) = some (.int .i64 ((rd_T23 l0_3 x4_1).f0)) ∧ w41.cell? ⟨(ad216.add ((x4_1).toNat * 3)).block, (ad216.add ((x4_1).toNat * 3)).off + 1, none⟩ = some (.int .i64 ((rd_T23 l0_3 x4_1).f1)) ∧ w41.cell? ⟨(ad216.add ((x4_1).toNat * 3)).block, (ad216.add ((x4_1).toNat * 3)).off + 2, none⟩ = some (.int .u8 ((rd_T23 l0_3 x4_1).f2)) := hS_
                           refine norm_ (a' := ?_) ?_ ?_
                           rotate_left
                           ·simp only [putAll, Act.put, List.setIfInBounds_toArray, List.set_cons_zero, List.set_cons_succ]
                            rfl
                           refine two_ (i := 7) (j := 26) (Ni := some 38) (Nj := some 57) #[true, true, true, true, true, true, true, true, false, false, true, true, true, true, true, true, false, false, false, true, true, true, true, true, true, true, false, false, false, false] #[true, true, true, true, true, true, true, false, false, false, true, true, true, true, true, true, false, false, false, true, true, true, true, true, true, true, true, false, false, false] rfl rfl rfl rfl (two_of HT_.out (by kernel_rfl)) (by decide) (by decide) (fun K hK => ?_) (fun K hK => ?_)
                           ·skip
                            refine gq_ Tryz.func41 (by kernel_rfl) rfl #[.int .i64 ((rd_T23 l0_3 x4_1).f0)] (by rfl) rfl rfl ?_
                            with_reducible refine (salvorref1_Hex.calls k1 ((rd_T23 l0_3 x4_1).f0) t217 _ A22.out).mono ?_
                            rintro e w' ⟨rfl, ⟨nd, rfl⟩⟩
                            refine ⟨_, rfl, ?_⟩
                            refine hK.out _ _ ⟨(blk_cell BK209.out 0).trans rfl, (blk_cell BK209.out 1).trans rfl, (blk_cell BK209.out 2).trans rfl, (blk_cell BK209.out 3).trans rfl, ((HB.out.cell (World.block_lt_of_cell? w _ hw216_0)).trans hw216_0), ((HB.out.cell (World.block_lt_of_cell? w _ hw216_1)).trans hw216_1), ((HB.out.cell (World.block_lt_of_cell? w _ hw216_2)).trans hw216_2), ((HB.out.cell (World.block_lt_of_cell? w _ hw218_0)).trans hw218_0), ((HB.out.cell (World.block_lt_of_cell? w _ hw218_1)).trans hw218_1), ((HB.out.cell (World.block_lt_of_cell? w _ hw218_2)).trans hw218_2), ((HB.out.cell (World.block_lt_of_cell? w _ hw220_0)).trans hw220_0), ((HB.out.cell (World.block_lt_of_cell? w _ hw220_1)).trans hw220_1), ((HB.out.cell (World.block_lt_of_cell? w _ hw220_2)).trans hw220_2)⟩ (fun hHeld => ?_)
                            clear hK K
                            refine nm_ 38 ?_
                            refine pu_ 8 39 (lb_ 30 66649599) rfl rfl (ao_ HT_) ?_
                            refine pu_ 9 40 (lb_ 30 66650111) rfl rfl (ao_ HT_) ?_
                            exact norm_ (by first | (simp only [putAll, Act.put, List.setIfInBounds_toArray, List.set_cons_zero, List.set_cons_succ]; done) | (simp only [putAll, Act.put, List.setIfInBounds_toArray, List.set_cons_zero, List.set_cons_succ]; rfl)) (hJ7_25 (v222) _ ⟨hHeld, (by (with_reducible repeat (first | apply Kd.R_alloc | apply Kd.R_drewN | apply Kd.R_drew)); exact HO223.out), (bq_ BK209), (bh_ HB)⟩)
                           ·skip
                            have hcv42 := own_string (P := Tryz.prog) Tryz.underlying39 Tryz.underlying5 Tryz.underlying9 (Kd.own_of_R HO223.out)
                            refine value_ (w1 := ?_) (v := ?_) (by rfl) rfl ?_ ?_
                            rotate_left 2
                            ·go_simp
                             constructor
                             ·rfl
                             ·rfl
                            clear hcv42
                            refine hK.out _ _ ⟨(blk_cell BK209.out 0).trans rfl, (blk_cell BK209.out 1).trans rfl, (blk_cell BK209.out 2).trans rfl, (blk_cell BK209.out 3).trans rfl, ((HB.out.cell (World.block_lt_of_cell? w _ hw216_0)).trans hw216_0), ((HB.out.cell (World.block_lt_of_cell? w _ hw216_1)).trans hw216_1), ((HB.out.cell (World.block_lt_of_cell? w _ hw216_2)).trans hw216_2), ((HB.out.cell (World.block_lt_of_cell? w _ hw218_0)).trans hw218_0), ((HB.out.cell (World.block_lt_of_cell? w _ hw218_1)).trans hw218_1), ((HB.out.cell (World.block_lt_of_cell? w _ hw218_2)).trans hw218_2), ((HB.out.cell (World.block_lt_of_cell? w _ hw220_0)).trans hw220_0), ((HB.out.cell (World.block_lt_of_cell? w _ hw220_1)).trans hw220_1), ((HB.out.cell (World.block_lt_of_cell? w _ hw220_2)).trans hw220_2)⟩ (fun hHeld => ?_)
                            clear hK K
                            refine nm_ 57 ?_
                            exact norm_ (by first | (simp only [putAll, Act.put, List.setIfInBounds_toArray, List.set_cons_zero, List.set_cons_succ]; done) | (simp only [putAll, Act.put, List.setIfInBounds_toArray, List.set_cons_zero, List.set_cons_succ]; rfl)) (hJ25_26 (v222) _ ⟨hHeld, (by (with_reducible repeat (first | apply Kd.R_alloc | apply Kd.R_drewN | apply Kd.R_drew)); exact HO223.out), (bq_ BK209), (bh_ HB)⟩)
                         ·skip
                          rintro _ w39 ⟨hS_, h0_, h1_⟩
                          have n0_ : Aside0 (w39.heap[gb209]? = some (.cells #[.int .i64 a0_0, .int .i64 a0_1, .int .u8 a0_2, .slice (some ad216) l0_3.length c0_3] 26 (0, 0))) := ⟨h0_⟩
                          have n1_ : Aside0 (Below w.heap.size w w39) := ⟨h1_⟩
                          clear BK209
                          clear HB
                          clear h0_ h1_
                          have BK209 := n0_
                          have HB := n1_
                          clear n0_ n1_
                          have hHeld : w39.cell? ⟨gb209, 0, none⟩ = some (.int .i64 a0_0) ∧ w39.cell? ⟨gb209, 1, none⟩ = some (.int .i64 a0_1) ∧ w39.cell? ⟨gb209, 2, none⟩ = some (.int .u8 a0_2) ∧ w39.cell? ⟨gb209, 3, none⟩ = some (.slice (some ad216) l0_3.length c0_3) ∧ w39.cell? (ad216.add ((x4_1).toNat * 3)) = some (.int .i64 ((rd_T23 l0_3 x4_1).f0)) ∧ w39.cell? ⟨(ad216.add ((x4_1).toNat * 3)).block, (ad216.add ((x4_1).toNat * 3)).off + 1, none⟩ = some (.int .i64 ((rd_T23 l0_3 x4_1).f1)) ∧ w39.cell? ⟨(ad216.add ((x4_1).toNat * 3)).block, (ad216.add ((x4_1).toNat * 3)).off + 2, none⟩ = some (.int .u8 ((rd_T23 l0_3 x4_1).f2)) ∧ w39.cell? (ad216.add ((x4_1).toNat * 3)) = some (.int .i64 ((rd_T23 l0_3 x4_1).f0)) ∧ w39.cell? ⟨(ad216.add ((x4_1).toNat * 3)).block, (ad216.add ((x4_1).toNat * 3)).off + 1, none⟩ = some (.int .i64 ((rd_T23 l0_3 x4_1).f1)) ∧ w39.cell? ⟨(ad216.add ((x4_1).toNat * 3)).block, (ad216.add ((x4_1).toNat * 3)).off + 2, none⟩ = some (.int .u8 ((rd_T23 l0_3 x4_1).f2)) ∧ w39.cell? (ad216.add ((x4_1).toNat * 3)) = some (.int .i64 ((rd_T23 l0_3 x4_1).f0)) ∧ w39.cell? ⟨(ad216.add ((x4_1).toNat * 3)).block, (ad216.add ((x4_1).toNat * 3)).off + 1, none⟩ = some (.int .i64 ((rd_T23 l0_3 x4_1).f1)) ∧ w39.cell? ⟨(ad216.add ((x4_1).toNat * 3)).block, (ad216.add ((x4_1).toNat * 3)).off + 2, none⟩ = some (.int .u8 ((rd_T23 l0_3 x4_1).f2)) := hS_
                          refine norm_ (a' := ?_) ?_ ?_
                          rotate_left
                          ·simp only [putAll, Act.put, List.setIfInBounds_toArray, List.set_cons_zero, List.set_cons_succ]
                           rfl
                          refine two_ (i := 16) (j := 25) (Ni := some 47) (Nj := some 56) #[true, true, true, true, true, true, true, true, true, true, true, true, true, true, true, true, true, false, false, true, true, true, true, true, true, false, false, false, false, false] #[true, true, true, true, true, true, true, true, true, true, true, true, true, true, true, true, false, false, false, true, true, true, true, true, true, true, false, false, false, false] rfl rfl rfl rfl (two_of HT_.out (by kernel_rfl)) (by decide) (by decide) (fun K hK => ?_) (fun K hK => ?_)
                          ·skip
                           refine gq_ Tryz.func41 (by kernel_rfl) rfl #[.int .i64 ((rd_T23 l0_3 x4_1).f1)] (by rfl) rfl rfl ?_
                           with_reducible refine (salvorref1_Hex.calls k1 ((rd_T23 l0_3 x4_1).f1) t219 _ A25.out).mono ?_
                           rintro e w' ⟨rfl, ⟨nd, rfl⟩⟩
                           refine ⟨_, rfl, ?_⟩
                           refine hK.out _ _ ⟨(blk_cell BK209.out 0).trans rfl, (blk_cell BK209.out 1).trans rfl, (blk_cell BK209.out 2).trans rfl, (blk_cell BK209.out 3).trans rfl, ((HB.out.cell (World.block_lt_of_cell? w _ hw216_0)).trans hw216_0), ((HB.out.cell (World.block_lt_of_cell? w _ hw216_1)).trans hw216_1), ((HB.out.cell (World.block_lt_of_cell? w _ hw216_2)).trans hw216_2), ((HB.out.cell (World.block_lt_of_cell? w _ hw218_0)).trans hw218_0), ((HB.out.cell (World.block_lt_of_cell? w _ hw218_1)).trans hw218_1), ((HB.out.cell (World.block_lt_of_cell? w _ hw218_2)).trans hw218_2), ((HB.out.cell (World.block_lt_of_cell? w _ hw220_0)).trans hw220_0), ((HB.out.cell (World.block_lt_of_cell? w _ hw220_1)).trans hw220_1), ((HB.out.cell (World.block_lt_of_cell? w _ hw220_2)).trans hw220_2)⟩ (fun hHeld => ?_)
                           clear hK K
                           refine nm_ 47 ?_
                           refine pu_ 17 48 (lb_ 30 33292287) rfl rfl (ao_ HT_) ?_
                           refine pu_ 18 49 (lb_ 30 33554431) rfl rfl (ao_ HT_) ?_
                           exact norm_ (by first | (simp only [putAll, Act.put, List.setIfInBounds_toArray, List.set_cons_zero, List.set_cons_succ]; done) | (simp only [putAll, Act.put, List.setIfInBounds_toArray, List.set_cons_zero, List.set_cons_succ]; rfl)) (hJ7_16 () _ ⟨hHeld, (bq_ BK209), (bh_ HB)⟩)
                          ·skip
                           refine Kd.R_lit_step (Kd.int .u8) _ 5 ?hg (N := 56) ?hd (xs := ([(rd_T23 l0_3 x4_1).f2] : List Int)) (inner := [.int .u8 ((rd_T23 l0_3 x4_1).f2)]) (ok := fun _ => True) (okp := fun _ => True) ?hr ?hp (fun _ hk => hk) trivial (Below.refl _ _) (Nat.le_refl _) (by simp) ?_; (case hd => rfl); (case hg => rfl); (case hr => first | (go_simp; done) | (go_simp; rfl)); (case hp => exact (Reps.one (show Kd.M (Kd.int .u8) _ _ _ ((rd_T23 l0_3 x4_1).f2) [.int .u8 ((rd_T23 l0_3 x4_1).f2)] from rfl) (Reps.none _ _)))
                           intro v222 w40 ho41 hb hg_ hnew_
                           clear hg_ hnew_
                           (first | rw [← Ny221.out] at ho41 | (simp only [Int.reduceToNat] at ho41; rw [← Ny221.out] at ho41))
                           have HO223 := Aside0.mk (Kd.R_lower ho41 (below_size (bh_ HB)))
                           replace BK209 := bb_ BK209 hb
                           replace HB := bs_ HB hb
                           clear hb ho41
                           refine hK.out _ _ ⟨(blk_cell BK209.out 0).trans rfl, (blk_cell BK209.out 1).trans rfl, (blk_cell BK209.out 2).trans rfl, (blk_cell BK209.out 3).trans rfl, ((HB.out.cell (World.block_lt_of_cell? w _ hw216_0)).trans hw216_0), ((HB.out.cell (World.block_lt_of_cell? w _ hw216_1)).trans hw216_1), ((HB.out.cell (World.block_lt_of_cell? w _ hw216_2)).trans hw216_2), ((HB.out.cell (World.block_lt_of_cell? w _ hw218_0)).trans hw218_0), ((HB.out.cell (World.block_lt_of_cell? w _ hw218_1)).trans hw218_1), ((HB.out.cell (World.block_lt_of_cell? w _ hw218_2)).trans hw218_2), ((HB.out.cell (World.block_lt_of_cell? w _ hw220_0)).trans hw220_0), ((HB.out.cell (World.block_lt_of_cell? w _ hw220_1)).trans hw220_1), ((HB.out.cell (World.block_lt_of_cell? w _ hw220_2)).trans hw220_2)⟩ (fun hHeld => ?_)
                           clear hK K
                           refine nm_ 56 ?_
                           exact norm_ (by first | (simp only [putAll, Act.put, List.setIfInBounds_toArray, List.set_cons_zero, List.set_cons_succ]; done) | (simp only [putAll, Act.put, List.setIfInBounds_toArray, List.set_cons_zero, List.set_cons_succ]; rfl)) (hJ7_25 (v222) _ ⟨hHeld, (by (with_reducible repeat (first | apply Kd.R_alloc | apply Kd.R_drewN | apply Kd.R_drew)); exact HO223.out), (bq_ BK209), (bh_ HB)⟩)
                        ·skip
                         rintro v222 w42 ⟨hS_, h0_, h1_, h2_⟩
                         have n0_ : Aside0 (Kd.R (Kd.int .u8) 5 w42 w.heap.size (fun _ => True) v222 y221) := ⟨h0_⟩
                         have n1_ : Aside0 (w42.heap[gb209]? = some (.cells #[.int .i64 a0_0, .int .i64 a0_1, .int .u8 a0_2, .slice (some ad216) l0_3.length c0_3] 26 (0, 0))) := ⟨h1_⟩
                         have n2_ : Aside0 (Below w.heap.size w w42) := ⟨h2_⟩
                         clear BK209
                         clear HB
                         clear h0_ h1_ h2_
                         have HO223 := n0_
                         have BK209 := n1_
                         have HB := n2_
                         clear n0_ n1_ n2_
                         have hHeld : w42.cell? ⟨gb209, 0, none⟩ = some (.int .i64 a0_0) ∧ w42.cell? ⟨gb209, 1, none⟩ = some (.int .i64 a0_1) ∧ w42.cell? ⟨gb209, 2, none⟩ = some (.int .u8 a0_2) ∧ w42.cell? ⟨gb209, 3, none⟩ = some (.slice (some ad216) l0_3.length c0_3) ∧ w42.cell? (ad216.add ((x4_1).toNat * 3)) = some (.int .i64 ((rd_T23 l0_3 x4_1).f0)) ∧ w42.cell? ⟨(ad216.add ((x4_1).toNat * 3)).block, (ad216.add ((x4_1).toNat * 3)).off + 1, none⟩ = some (.int .i64 ((rd_T23 l0_3 x4_1).f1)) ∧ w42.cell? ⟨(ad216.add ((x4_1).toNat * 3)).block, (ad216.add ((x4_1).toNat * 3)).off + 2, none⟩ = some (.int .u8 ((rd_T23 l0_3 x4_1).f2)) ∧ w42.cell? (ad216.add ((x4_1).toNat * 3)) = some (.int .i64 ((rd_T23 l0_3 x4_1).f0)) ∧ w42.cell? ⟨(ad216.add ((x4_1).toNat * 3)).block, (ad216.add ((x4_1).toNat * 3)).off + 1, none⟩ = some (.int .i64 ((rd_T23 l0_3 x4_1).f1)) ∧ w42.cell? ⟨(ad216.add ((x4_1).toNat * 3)).block, (ad216.add ((x4_1).toNat * 3)).off + 2, none⟩ = some (.int .u8 ((rd_T23 l0_3 x4_1).f2)) ∧ w42.cell? (ad216.add ((x4_1).toNat * 3)) = some (.int .i64 ((rd_T23 l0_3 x4_1).f0)) ∧ w42.cell? ⟨(ad216.add ((x4_1).toNat * 3)).block, (ad216.add ((x4_1).toNat * 3)).off + 1, none⟩ = some (.int .i64 ((rd_T23 l0_3 x4_1).f1)) ∧ w42.cell? ⟨(ad216.add ((x4_1).toNat * 3)).block, (ad216.add ((x4_1).toNat * 3)).off + 2, none⟩ = some (.int .u8 ((rd_T23 l0_3 x4_1).f2)) := hS_
                         refine norm_ (a' := ?_) ?_ ?_
                         rotate_left
                         ·simp only [putAll, Act.put, List.setIfInBounds_toArray, List.set_cons_zero, List.set_cons_succ]
                          rfl
                         refine one_ (i := 7) (N := some 38) #[true, true, true, true, true, true, true, true, false, false, true, true, true, true, true, true, false, false, false, true, true, true, true, true, true, true, true, false, false, false] rfl rfl (one_of HT_.out (by kernel_rfl)) (by decide) (fun K hK => ?_)
                         refine gq_ Tryz.func41 (by kernel_rfl) rfl #[.int .i64 ((rd_T23 l0_3 x4_1).f0)] (by rfl) rfl rfl ?_
                         with_reducible refine (salvorref1_Hex.calls k1 ((rd_T23 l0_3 x4_1).f0) t217 _ A22.out).mono ?_
                         rintro e w' ⟨rfl, ⟨nd, rfl⟩⟩
                         refine ⟨_, rfl, ?_⟩
                         refine hK.out _ _ ⟨(blk_cell BK209.out 0).trans rfl, (blk_cell BK209.out 1).trans rfl, (blk_cell BK209.out 2).trans rfl, (blk_cell BK209.out 3).trans rfl, ((HB.out.cell (World.block_lt_of_cell? w _ hw216_0)).trans hw216_0), ((HB.out.cell (World.block_lt_of_cell? w _ hw216_1)).trans hw216_1), ((HB.out.cell (World.block_lt_of_cell? w _ hw216_2)).trans hw216_2), ((HB.out.cell (World.block_lt_of_cell? w _ hw218_0)).trans hw218_0), ((HB.out.cell (World.block_lt_of_cell? w _ hw218_1)).trans hw218_1), ((HB.out.cell (World.block_lt_of_cell? w _ hw218_2)).trans hw218_2), ((HB.out.cell (World.block_lt_of_cell? w _ hw220_0)).trans hw220_0), ((HB.out.cell (World.block_lt_of_cell? w _ hw220_1)).trans hw220_1), ((HB.out.cell (World.block_lt_of_cell? w _ hw220_2)).trans hw220_2)⟩ (fun hHeld => ?_)
                         clear hK K
                         refine nm_ 38 ?_
                         refine pu_ 8 39 (lb_ 30 133758463) rfl rfl (ao_ HT_) ?_
                         refine pu_ 9 40 (lb_ 30 133758975) rfl rfl (ao_ HT_) ?_
                         exact norm_ (by first | (simp only [putAll, Act.put, List.setIfInBounds_toArray, List.set_cons_zero, List.set_cons_succ]; done) | (simp only [putAll, Act.put, List.setIfInBounds_toArray, List.set_cons_zero, List.set_cons_succ]; rfl)) (hJ7_25_26 (v222) _ ⟨hHeld, (by (with_reducible repeat (first | apply Kd.R_alloc | apply Kd.R_drewN | apply Kd.R_drew)); exact HO223.out), (bq_ BK209), (bh_ HB)⟩)
                       ·skip
                        rintro v222 w41 ⟨hS_, h0_, h1_, h2_⟩
                        have n0_ : Aside0 (Kd.R (Kd.int .u8) 5 w41 w.heap.size (fun _ => True) v222 y221) := ⟨h0_⟩
                        have n1_ : Aside0 (w41.heap[gb209]? = some (.cells #[.int .i64 a0_0, .int .i64 a0_1, .int .u8 a0_2, .slice (some ad216) l0_3.length c0_3] 26 (0, 0))) := ⟨h1_⟩
                        have n2_ : Aside0 (Below w.heap.size w w41) := ⟨h2_⟩
                        clear BK209
                        clear HB
                        clear h0_ h1_ h2_
                        have HO223 := n0_
                        have BK209 := n1_
                        have HB := n2_
                        clear n0_ n1_ n2_
                        have hHeld : w41.cell? ⟨gb209, 0, none⟩ = some (.int .i64 a0_0) ∧ w41.cell? ⟨gb209, 1, none⟩ = some (.int .i64 a0_1) ∧ w41.cell? ⟨gb209, 2, none⟩ = some (.int .u8 a0_2) ∧ w41.cell? ⟨gb209, 3, none⟩ = some (.slice (some ad216) l0_3.length c0_3) ∧ w41.cell? (ad216.add ((x4_1).toNat * 3)) = some (.int .i64 ((rd_T23 l0_3 x4_1).f0)) ∧ w41.cell? ⟨(ad216.add ((x4_1).toNat * 3)).block, (ad216.add ((x4_1).toNat * 3)).off + 1, none⟩ = some (.int .i64 ((rd_T23 l0_3 x4_1).f1)) ∧ w41.cell? ⟨(ad216.add ((x4_1).toNat * 3)).block, (ad216.add ((x4_1).toNat * 3)).off + 2, none⟩ = some (.int .u8 ((rd_T23 l0_3 x4_1).f2)) ∧ w41.cell? (ad216.add ((x4_1).toNat * 3)) = some (.int .i64 ((rd_T23 l0_3 x4_1).f0)) ∧ w41.cell? ⟨(ad216.add ((x4_1).toNat * 3)).block, (ad216.add ((x4_1).toNat * 3)).off + 1, none⟩ = some (.int .i64 ((rd_T23 l0_3 x4_1).f1)) ∧ w41.cell? ⟨(ad216.add ((x4_1).toNat * 3)).block, (ad216.add ((x4_1).toNat * 3)).off + 2, none⟩ = some (.int .u8 ((rd_T23 l0_3 x4_1).f2)) ∧ w41.cell? (ad216.add ((x4_1).toNat * 3)) = some (.int .i64 ((rd_T23 l0_3 x4_1).f0)) ∧ w41.cell? ⟨(ad216.add ((x4_1).toNat * 3)).block, (ad216.add ((x4_1).toNat * 3)).off + 1, none⟩ = some (.int .i64 ((rd_T23 l0_3 x4_1).f1)) ∧ w41.cell? ⟨(ad216.add ((x4_1).toNat * 3)).block, (ad216.add ((x4_1).toNat * 3)).off + 2, none⟩ = some (.int .u8 ((rd_T23 l0_3 x4_1).f2)) := hS_
                        refine norm_ (a' := ?_) ?_ ?_
                        rotate_left
                        ·simp only [putAll, Act.put, List.setIfInBounds_toArray, List.set_cons_zero, List.set_cons_succ]
                         rfl
                        refine two_ (i := 16) (j := 26) (Ni := some 47) (Nj := some 57) #[true, true, true, true, true, true, true, true, true, true, true, true, true, true, true, true, true, false, false, true, true, true, true, true, true, true, false, false, false, false] #[true, true, true, true, true, true, true, true, true, true, true, true, true, true, true, true, false, false, false, true, true, true, true, true, true, true, true, false, false, false] rfl rfl rfl rfl (two_of HT_.out (by kernel_rfl)) (by decide) (by decide) (fun K hK => ?_) (fun K hK => ?_)
                        ·skip
                         refine gq_ Tryz.func41 (by kernel_rfl) rfl #[.int .i64 ((rd_T23 l0_3 x4_1).f1)] (by rfl) rfl rfl ?_
                         with_reducible refine (salvorref1_Hex.calls k1 ((rd_T23 l0_3 x4_1).f1) t219 _ A25.out).mono ?_
                         rintro e w' ⟨rfl, ⟨nd, rfl⟩⟩
                         refine ⟨_, rfl, ?_⟩
                         refine hK.out _ _ ⟨(blk_cell BK209.out 0).trans rfl, (blk_cell BK209.out 1).trans rfl, (blk_cell BK209.out 2).trans rfl, (blk_cell BK209.out 3).trans rfl, ((HB.out.cell (World.block_lt_of_cell? w _ hw216_0)).trans hw216_0), ((HB.out.cell (World.block_lt_of_cell? w _ hw216_1)).trans hw216_1), ((HB.out.cell (World.block_lt_of_cell? w _ hw216_2)).trans hw216_2), ((HB.out.cell (World.block_lt_of_cell? w _ hw218_0)).trans hw218_0), ((HB.out.cell (World.block_lt_of_cell? w _ hw218_1)).trans hw218_1), ((HB.out.cell (World.block_lt_of_cell? w _ hw218_2)).trans hw218_2), ((HB.out.cell (World.block_lt_of_cell? w _ hw220_0)).trans hw220_0), ((HB.out.cell (World.block_lt_of_cell? w _ hw220_1)).trans hw220_1), ((HB.out.cell (World.block_lt_of_cell? w _ hw220_2)).trans hw220_2)⟩ (fun hHeld => ?_)
                         clear hK K
                         refine nm_ 47 ?_
                         refine pu_ 17 48 (lb_ 30 66846719) rfl rfl (ao_ HT_) ?_
                         refine pu_ 18 49 (lb_ 30 67108863) rfl rfl (ao_ HT_) ?_
                         exact norm_ (by first | (simp only [putAll, Act.put, List.setIfInBounds_toArray, List.set_cons_zero, List.set_cons_succ]; done) | (simp only [putAll, Act.put, List.setIfInBounds_toArray, List.set_cons_zero, List.set_cons_succ]; rfl)) (hJ7_16_25 (v222) _ ⟨hHeld, (by (with_reducible repeat (first | apply Kd.R_alloc | apply Kd.R_drewN | apply Kd.R_drew)); exact HO223.out), (bq_ BK209), (bh_ HB)⟩)
                        ·skip
                         have hcv42 := own_string (P := Tryz.prog) Tryz.underlying39 Tryz.underlying5 Tryz.underlying9 (Kd.own_of_R HO223.out)
                         refine value_ (w1 := ?_) (v := ?_) (by rfl) rfl ?_ ?_
                         rotate_left 2
                         ·go_simp
                          constructor
                          ·rfl
                          ·rfl
                         clear hcv42
                         refine hK.out _ _ ⟨(blk_cell BK209.out 0).trans rfl, (blk_cell BK209.out 1).trans rfl, (blk_cell BK209.out 2).trans rfl, (blk_cell BK209.out 3).trans rfl, ((HB.out.cell (World.block_lt_of_cell? w _ hw216_0)).trans hw216_0), ((HB.out.cell (World.block_lt_of_cell? w _ hw216_1)).trans hw216_1), ((HB.out.cell (World.block_lt_of_cell? w _ hw216_2)).trans hw216_2), ((HB.out.cell (World.block_lt_of_cell? w _ hw218_0)).trans hw218_0), ((HB.out.cell (World.block_lt_of_cell? w _ hw218_1)).trans hw218_1), ((HB.out.cell (World.block_lt_of_cell? w _ hw218_2)).trans hw218_2), ((HB.out.cell (World.block_lt_of_cell? w _ hw220_0)).trans hw220_0), ((HB.out.cell (World.block_lt_of_cell? w _ hw220_1)).trans hw220_1), ((HB.out.cell (World.block_lt_of_cell? w _ hw220_2)).trans hw220_2)⟩ (fun hHeld => ?_)
                         clear hK K
                         refine nm_ 57 ?_
                         exact norm_ (by first | (simp only [putAll, Act.put, List.setIfInBounds_toArray, List.set_cons_zero, List.set_cons_succ]; done) | (simp only [putAll, Act.put, List.setIfInBounds_toArray, List.set_cons_zero, List.set_cons_succ]; rfl)) (hJ7_25_26 (v222) _ ⟨hHeld, (by (with_reducible repeat (first | apply Kd.R_alloc | apply Kd.R_drewN | apply Kd.R_drew)); exact HO223.out), (bq_ BK209), (bh_ HB)⟩)
                      ·skip
                       rintro _ w39 ⟨hS_, h0_, h1_⟩
                       have n0_ : Aside0 (w39.heap[gb209]? = some (.cells #[.int .i64 a0_0, .int .i64 a0_1, .int .u8 a0_2, .slice (some ad216) l0_3.length c0_3] 26 (0, 0))) := ⟨h0_⟩
                       have n1_ : Aside0 (Below w.heap.size w w39) := ⟨h1_⟩
                       clear BK209
                       clear HB
                       clear h0_ h1_
                       have BK209 := n0_
                       have HB := n1_
                       clear n0_ n1_
                       have hHeld : w39.cell? ⟨gb209, 0, none⟩ = some (.int .i64 a0_0) ∧ w39.cell? ⟨gb209, 1, none⟩ = some (.int .i64 a0_1) ∧ w39.cell? ⟨gb209, 2, none⟩ = some (.int .u8 a0_2) ∧ w39.cell? ⟨gb209, 3, none⟩ = some (.slice (some ad216) l0_3.length c0_3) ∧ w39.cell? (ad216.add ((x4_1).toNat * 3)) = some (.int .i64 ((rd_T23 l0_3 x4_1).f0)) ∧ w39.cell? ⟨(ad216.add ((x4_1).toNat * 3)).block, (ad216.add ((x4_1).toNat * 3)).off + 1, none⟩ = some (.int .i64 ((rd_T23 l0_3 x4_1).f1)) ∧ w39.cell? ⟨(ad216.add ((x4_1).toNat * 3)).block, (ad216.add ((x4_1).toNat * 3)).off + 2, none⟩ = some (.int .u8 ((rd_T23 l0_3 x4_1).f2)) ∧ w39.cell? (ad216.add ((x4_1).toNat * 3)) = some (.int .i64 ((rd_T23 l0_3 x4_1).f0)) ∧ w39.cell? ⟨(ad216.add ((x4_1).toNat * 3)).block, (ad216.add ((x4_1).toNat * 3)).off + 1, none⟩ = some (.int .i64 ((rd_T23 l0_3 x4_1).f1)) ∧ w39.cell? ⟨(ad216.add ((x4_1).toNat * 3)).block, (ad216.add ((x4_1).toNat * 3)).off + 2, none⟩ = some (.int .u8 ((rd_T23 l0_3 x4_1).f2)) ∧ w39.cell? (ad216.add ((x4_1).toNat * 3)) = some (.int .i64 ((rd_T23 l0_3 x4_1).f0)) ∧ w39.cell? ⟨(ad216.add ((x4_1).toNat * 3)).block, (ad216.add ((x4_1).toNat * 3)).off + 1, none⟩ = some (.int .i64 ((rd_T23 l0_3 x4_1).f1)) ∧ w39.cell? ⟨(ad216.add ((x4_1).toNat * 3)).block, (ad216.add ((x4_1).toNat * 3)).off + 2, none⟩ = some (.int .u8 ((rd_T23 l0_3 x4_1).f2)) := hS_
                       refine norm_ (a' := ?_) ?_ ?_
                       rotate_left
                       ·simp only [putAll, Act.put, List.setIfInBounds_toArray, List.set_cons_zero, List.set_cons_succ]
                        rfl
                       refine one_ (i := 25) (N := some 56) #[true, true, true, true, true, true, true, true, true, true, true, true, true, true, true, true, true, true, true, true, true, true, true, true, true, true, false, false, false, false] rfl rfl (one_of HT_.out (by kernel_rfl)) (by decide) (fun K hK => ?_)
                       refine Kd.R_lit_step (Kd.int .u8) _ 5 ?hg (N := 56) ?hd (xs := ([(rd_T23 l0_3 x4_1).f2] : List Int)) (inner := [.int .u8 ((rd_T23 l0_3 x4_1).f2)]) (ok := fun _ => True) (okp := fun _ => True) ?hr ?hp (fun _ hk => hk) trivial (Below.refl _ _) (Nat.le_refl _) (by simp) ?_; (case hd => rfl); (case hg => rfl); (case hr => first | (go_simp; done) | (go_simp; rfl)); (case hp => exact (Reps.one (show Kd.M (Kd.int .u8) _ _ _ ((rd_T23 l0_3 x4_1).f2) [.int .u8 ((rd_T23 l0_3 x4_1).f2)] from rfl) (Reps.none _ _)))
                       intro v222 w40 ho41 hb hg_ hnew_
                       clear hg_ hnew_
                       (first | rw [← Ny221.out] at ho41 | (simp only [Int.reduceToNat] at ho41; rw [← Ny221.out] at ho41))
                       have HO223 := Aside0.mk (Kd.R_lower ho41 (below_size (bh_ HB)))
                       replace BK209 := bb_ BK209 hb
                       replace HB := bs_ HB hb
                       clear hb ho41
                       refine hK.out _ _ ⟨(blk_cell BK209.out 0).trans rfl, (blk_cell BK209.out 1).trans rfl, (blk_cell BK209.out 2).trans rfl, (blk_cell BK209.out 3).trans rfl, ((HB.out.cell (World.block_lt_of_cell? w _ hw216_0)).trans hw216_0), ((HB.out.cell (World.block_lt_of_cell? w _ hw216_1)).trans hw216_1), ((HB.out.cell (World.block_lt_of_cell? w _ hw216_2)).trans hw216_2), ((HB.out.cell (World.block_lt_of_cell? w _ hw218_0)).trans hw218_0), ((HB.out.cell (World.block_lt_of_cell? w _ hw218_1)).trans hw218_1), ((HB.out.cell (World.block_lt_of_cell? w _ hw218_2)).trans hw218_2), ((HB.out.cell (World.block_lt_of_cell? w _ hw220_0)).trans hw220_0), ((HB.out.cell (World.block_lt_of_cell? w _ hw220_1)).trans hw220_1), ((HB.out.cell (World.block_lt_of_cell? w _ hw220_2)).trans hw220_2)⟩ (fun hHeld => ?_)
                       clear hK K
                       refine nm_ 56 ?_
                       exact norm_ (by first | (simp only [putAll, Act.put, List.setIfInBounds_toArray, List.set_cons_zero, List.set_cons_succ]; done) | (simp only [putAll, Act.put, List.setIfInBounds_toArray, List.set_cons_zero, List.set_cons_succ]; rfl)) (hJ7_16_25 (v222) _ ⟨hHeld, (by (with_reducible repeat (first | apply Kd.R_alloc | apply Kd.R_drewN | apply Kd.R_drew)); exact HO223.out), (bq_ BK209), (bh_ HB)⟩)
                     ·skip
                      rintro v222 w42 ⟨hS_, h0_, h1_, h2_⟩
                      have n0_ : Aside0 (Kd.R (Kd.int .u8) 5 w42 w.heap.size (fun _ => True) v222 y221) := ⟨h0_⟩
                      have n1_ : Aside0 (w42.heap[gb209]? = some (.cells #[.int .i64 a0_0, .int .i64 a0_1, .int .u8 a0_2, .slice (some ad216) l0_3.length c0_3] 26 (0, 0))) := ⟨h1_⟩
                      have n2_ : Aside0 (Below w.heap.size w w42) := ⟨h2_⟩
                      clear BK209
                      clear HB
                      clear h0_ h1_ h2_
                      have HO223 := n0_
                      have BK209 := n1_
                      have HB := n2_
                      clear n0_ n1_ n2_
                      have hHeld : w42.cell? ⟨gb209, 0, none⟩ = some (.int .i64 a0_0) ∧ w42.cell? ⟨gb209, 1, none⟩ = some (.int .i64 a0_1) ∧ w42.cell? ⟨gb209, 2, none⟩ = some (.int .u8 a0_2) ∧ w42.cell? ⟨gb209, 3, none⟩ = some (.slice (some ad216) l0_3.length c0_3) ∧ w42.cell? (ad216.add ((x4_1).toNat * 3)) = some (.int .i64 ((rd_T23 l0_3 x4_1).f0)) ∧ w42.cell? ⟨(ad216.add ((x4_1).toNat * 3)).block, (ad216.add ((x4_1).toNat * 3)).off + 1, none⟩ = some (.int .i64 ((rd_T23 l0_3 x4_1).f1)) ∧ w42.cell? ⟨(ad216.add ((x4_1).toNat * 3)).block, (ad216.add ((x4_1).toNat * 3)).off + 2, none⟩ = some (.int .u8 ((rd_T23 l0_3 x4_1).f2)) ∧ w42.cell? (ad216.add ((x4_1).toNat * 3)) = some (.int .i64 ((rd_T23 l0_3 x4_1).f0)) ∧ w42.cell? ⟨(ad216.add ((x4_1).toNat * 3)).block, (ad216.add ((x4_1).toNat * 3)).off + 1, none⟩ = some (.int .i64 ((rd_T23 l0_3 x4_1).f1)) ∧ w42.cell? ⟨(ad216.add ((x4_1).toNat * 3)).block, (ad216.add ((x4_1).toNat * 3)).off + 2, none⟩ = some (.int .u8 ((rd_T23 l0_3 x4_1).f2)) ∧ w42.cell? (ad216.add ((x4_1).toNat * 3)) = some (.int .i64 ((rd_T23 l0_3 x4_1).f0)) ∧ w42.cell? ⟨(ad216.add ((x4_1).toNat * 3)).block, (ad216.add ((x4_1).toNat * 3)).off + 1, none⟩ = some (.int .i64 ((rd_T23 l0_3 x4_1).f1)) ∧ w42.cell? ⟨(ad216.add ((x4_1).toNat * 3)).block, (ad216.add ((x4_1).toNat * 3)).off + 2, none⟩ = some (.int .u8 ((rd_T23 l0_3 x4_1).f2)) := hS_
                      refine norm_ (a' := ?_) ?_ ?_
                      rotate_left
                      ·simp only [putAll, Act.put, List.setIfInBounds_toArray, List.set_cons_zero, List.set_cons_succ]
                       rfl
                      refine one_ (i := 16) (N := some 47) #[true, true, true, true, true, true, true, true, true, true, true, true, true, true, true, true, true, false, false, true, true, true, true, true, true, true, true, false, false, false] rfl rfl (one_of HT_.out (by kernel_rfl)) (by decide) (fun K hK => ?_)
                      refine gq_ Tryz.func41 (by kernel_rfl) rfl #[.int .i64 ((rd_T23 l0_3 x4_1).f1)] (by rfl) rfl rfl ?_
                      with_reducible refine (salvorref1_Hex.calls k1 ((rd_T23 l0_3 x4_1).f1) t219 _ A25.out).mono ?_
                      rintro e w' ⟨rfl, ⟨nd, rfl⟩⟩
                      refine ⟨_, rfl, ?_⟩
                      refine hK.out _ _ ⟨(blk_cell BK209.out 0).trans rfl, (blk_cell BK209.out 1).trans rfl, (blk_cell BK209.out 2).trans rfl, (blk_cell BK209.out 3).trans rfl, ((HB.out.cell (World.block_lt_of_cell? w _ hw216_0)).trans hw216_0), ((HB.out.cell (World.block_lt_of_cell? w _ hw216_1)).trans hw216_1), ((HB.out.cell (World.block_lt_of_cell? w _ hw216_2)).trans hw216_2), ((HB.out.cell (World.block_lt_of_cell? w _ hw218_0)).trans hw218_0), ((HB.out.cell (World.block_lt_of_cell? w _ hw218_1)).trans hw218_1), ((HB.out.cell (World.block_lt_of_cell? w _ hw218_2)).trans hw218_2), ((HB.out.cell (World.block_lt_of_cell? w _ hw220_0)).trans hw220_0), ((HB.out.cell (World.block_lt_of_cell? w _ hw220_1)).trans hw220_1), ((HB.out.cell (World.block_lt_of_cell? w _ hw220_2)).trans hw220_2)⟩ (fun hHeld => ?_)
                      clear hK K
                      refine nm_ 47 ?_
                      refine pu_ 17 48 (lb_ 30 133955583) rfl rfl (ao_ HT_) ?_
                      refine pu_ 18 49 (lb_ 30 134217727) rfl rfl (ao_ HT_) ?_
                      exact norm_ (by first | (simp only [putAll, Act.put, List.setIfInBounds_toArray, List.set_cons_zero, List.set_cons_succ]; done) | (simp only [putAll, Act.put, List.setIfInBounds_toArray, List.set_cons_zero, List.set_cons_succ]; rfl)) (hJ7_16_25_26 (v222) _ ⟨hHeld, (by (with_reducible repeat (first | apply Kd.R_alloc | apply Kd.R_drewN | apply Kd.R_drew)); exact HO223.out), (bq_ BK209), (bh_ HB)⟩)
                    ·skip
                     rintro v222 w41 ⟨hS_, h0_, h1_, h2_⟩
                     have n0_ : Aside0 (Kd.R (Kd.int .u8) 5 w41 w.heap.size (fun _ => True) v222 y221) := ⟨h0_⟩
                     have n1_ : Aside0 (w41.heap[gb209]? = some (.cells #[.int .i64 a0_0, .int .i64 a0_1, .int .u8 a0_2, .slice (some ad216) l0_3.length c0_3] 26 (0, 0))) := ⟨h1_⟩
                     have n2_ : Aside0 (Below w.heap.size w w41) := ⟨h2_⟩
                     clear BK209
                     clear HB
                     clear h0_ h1_ h2_
                     have HO223 := n0_
                     have BK209 := n1_
                     have HB := n2_
                     clear n0_ n1_ n2_
                     have hHeld : w41.cell? ⟨gb209, 0, none⟩ = some (.int .i64 a0_0) ∧ w41.cell? ⟨gb209, 1, none⟩ = some (.int .i64 a0_1) ∧ w41.cell? ⟨gb209, 2, none⟩ = some (.int .u8 a0_2) ∧ w41.cell? ⟨gb209, 3, none⟩ = some (.slice (some ad216) l0_3.length c0_3) ∧ w41.cell? (ad216.add ((x4_1).toNat * 3)) = some (.int .i64 ((rd_T23 l0_3 x4_1).f0)) ∧ w41.cell? ⟨(ad216.add ((x4_1).toNat * 3)).block, (ad216.add ((x4_1).toNat * 3)).off + 1, none⟩ = some (.int .i64 ((rd_T23 l0_3 x4_1).f1)) ∧ w41.cell? ⟨(ad216.add ((x4_1).toNat * 3)).block, (ad216.add ((x4_1).toNat * 3)).off + 2, none⟩ = some (.int .u8 ((rd_T23 l0_3 x4_1).f2)) ∧ w41.cell? (ad216.add ((x4_1).toNat * 3)) = some (.int .i64 ((rd_T23 l0_3 x4_1).f0)) ∧ w41.cell? ⟨(ad216.add ((x4_1).toNat * 3)).block, (ad216.add ((x4_1).toNat * 3)).off + 1, none⟩ = some (.int .i64 ((rd_T23 l0_3 x4_1).f1)) ∧ w41.cell? ⟨(ad216.add ((x4_1).toNat * 3)).block, (ad216.add ((x4_1).toNat * 3)).off + 2, none⟩ = some (.int .u8 ((rd_T23 l0_3 x4_1).f2)) ∧ w41.cell? (ad216.add ((x4_1).toNat * 3)) = some (.int .i64 ((rd_T23 l0_3 x4_1).f0)) ∧ w41.cell? ⟨(ad216.add ((x4_1).toNat * 3)).block, (ad216.add ((x4_1).toNat * 3)).off + 1, none⟩ = some (.int .i64 ((rd_T23 l0_3 x4_1).f1)) ∧ w41.cell? ⟨(ad216.add ((x4_1).toNat * 3)).block, (ad216.add ((x4_1).toNat * 3)).off + 2, none⟩ = some (.int .u8 ((rd_T23 l0_3 x4_1).f2)) := hS_
                     refine norm_ (a' := ?_) ?_ ?_
                     rotate_left
                     ·simp only [putAll, Act.put, List.setIfInBounds_toArray, List.set_cons_zero, List.set_cons_succ]
                      rfl
                     refine one_ (i := 26) (N := some 57) #[true, true, true, true, true, true, true, true, true, true, true, true, true, true, true, true, true, true, true, true, true, true, true, true, true, true, true, false, false, false] rfl rfl (one_of HT_.out (by kernel_rfl)) (by decide) (fun K hK => ?_)
                     have hcv42 := own_string (P := Tryz.prog) Tryz.underlying39 Tryz.underlying5 Tryz.underlying9 (Kd.own_of_R HO223.out)
                     refine value_ (w1 := ?_) (v := ?_) (by rfl) rfl ?_ ?_
                     rotate_left 2
                     ·go_simp
                      constructor
                      ·rfl
                      ·rfl
                     clear hcv42
                     refine hK.out _ _ ⟨(blk_cell BK209.out 0).trans rfl, (blk_cell BK209.out 1).trans rfl, (blk_cell BK209.out 2).trans rfl, (blk_cell BK209.out 3).trans rfl, ((HB.out.cell (World.block_lt_of_cell? w _ hw216_0)).trans hw216_0), ((HB.out.cell (World.block_lt_of_cell? w _ hw216_1)).trans hw216_1), ((HB.out.cell (World.block_lt_of_cell? w _ hw216_2)).trans hw216_2), ((HB.out.cell (World.block_lt_of_cell? w _ hw218_0)).trans hw218_0), ((HB.out.cell (World.block_lt_of_cell? w _ hw218_1)).trans hw218_1), ((HB.out.cell (World.block_lt_of_cell? w _ hw218_2)).trans hw218_2), ((HB.out.cell (World.block_lt_of_cell? w _ hw220_0)).trans hw220_0), ((HB.out.cell (World.block_lt_of_cell? w _ hw220_1)).trans hw220_1), ((HB.out.cell (World.block_lt_of_cell? w _ hw220_2)).trans hw220_2)⟩ (fun hHeld => ?_)
                     clear hK K
                     refine nm_ 57 ?_
                     exact norm_ (by first | (simp only [putAll, Act.put, List.setIfInBounds_toArray, List.set_cons_zero, List.set_cons_succ]; done) | (simp only [putAll, Act.put, List.setIfInBounds_toArray, List.set_cons_zero, List.set_cons_succ]; rfl)) (hJ7_16_25_26 (v222) _ ⟨hHeld, (by (with_reducible repeat (first | apply Kd.R_alloc | apply Kd.R_drewN | apply Kd.R_drew)); exact HO223.out), (bq_ BK209), (bh_ HB)⟩)
                   rintro v222 w42 ⟨hS_, h0_, h1_, h2_⟩
                   have n0_ : Aside0 (Kd.R (Kd.int .u8) 5 w42 w.heap.size (fun _ => True) v222 y221) := ⟨h0_⟩
                   have n1_ : Aside0 (w42.heap[gb209]? = some (.cells #[.int .i64 a0_0, .int .i64 a0_1, .int .u8 a0_2, .slice (some ad216) l0_3.length c0_3] 26 (0, 0))) := ⟨h1_⟩
                   have n2_ : Aside0 (Below w.heap.size w w42) := ⟨h2_⟩
                   clear BK209
                   clear HB
                   clear h0_ h1_ h2_
                   have HO223 := n0_
                   have BK209 := n1_
                   have HB := n2_
                   clear n0_ n1_ n2_
                   have hHeld : w42.cell? ⟨gb209, 0, none⟩ = some (.int .i64 a0_0) ∧ w42.cell? ⟨gb209, 1, none⟩ = some (.int .i64 a0_1) ∧ w42.cell? ⟨gb209, 2, none⟩ = some (.int .u8 a0_2) ∧ w42.cell? ⟨gb209, 3, none⟩ = some (.slice (some ad216) l0_3.length c0_3) ∧ w42.cell? (ad216.add ((x4_1).toNat * 3)) = some (.int .i64 ((rd_T23 l0_3 x4_1).f0)) ∧ w42.cell? ⟨(ad216.add ((x4_1).toNat * 3)).block, (ad216.add ((x4_1).toNat * 3)).off + 1, none⟩ = some (.int .i64 ((rd_T23 l0_3 x4_1).f1)) ∧ w42.cell? ⟨(ad216.add ((x4_1).toNat * 3)).block, (ad216.add ((x4_1).toNat * 3)).off + 2, none⟩ = some (.int .u8 ((rd_T23 l0_3 x4_1).f2)) ∧ w42.cell? (ad216.add ((x4_1).toNat * 3)) = some (.int .i64 ((rd_T23 l0_3 x4_1).f0)) ∧ w42.cell? ⟨(ad216.add ((x4_1).toNat * 3)).block, (ad216.add ((x4_1).toNat * 3)).off + 1, none⟩ = some (.int .i64 ((rd_T23 l0_3 x4_1).f1)) ∧ w42.cell? ⟨(ad216.add ((x4_1).toNat * 3)).block, (ad216.add ((x4_1).toNat * 3)).off + 2, none⟩ = some (.int .u8 ((rd_T23 l0_3 x4_1).f2)) ∧ w42.cell? (ad216.add ((x4_1).toNat * 3)) = some (.int .i64 ((rd_T23 l0_3 x4_1).f0)) ∧ w42.cell? ⟨(ad216.add ((x4_1).toNat * 3)).block, (ad216.add ((x4_1).toNat * 3)).off + 1, none⟩ = some (.int .i64 ((rd_T23 l0_3 x4_1).f1)) ∧ w42.cell? ⟨(ad216.add ((x4_1).toNat * 3)).block, (ad216.add ((x4_1).toNat * 3)).off + 2, none⟩ = some (.int .u8 ((rd_T23 l0_3 x4_1).f2)) := hS_
                   refine norm_ (a' := ?_) ?_ ?_
                   rotate_left
                   ·simp only [putAll, Act.put, List.setIfInBounds_toArray, List.set_cons_zero, List.set_cons_succ]
                    rfl
                   refine pu_ 27 58 (lb_ 30 268435455) rfl rfl (ao_ HT_) ?_
                   refine pu_ 28 59 (lb_ 30 536870911) rfl rfl (ao_ HT_) ?_
                   refine pu_ 29 3 (lb_ 30 1073741823) rfl rfl (ao_ HT_) ?_
                   refine done_ (done_of HT_.out (by kernel_rfl)) ?_
                   obtain ⟨yL, hyL⟩ : ∃ y_ : ByteArray, y_ = ((((((x3_1 ++ t217) ++ (⟨#[32]⟩ : ByteArray)) ++ t219) ++ (⟨#[32]⟩ : ByteArray)) ++ (strOfNums y221)) ++ (⟨#[10]⟩ : ByteArray)) := ⟨_, rfl⟩
                   rw [← hyL] at c30b0 c30b1
                   rw [← hyL]
                   (try clear c10b0); (try clear c10b1); (try clear c10b2); (try clear c10b3); (try clear c11b0); (try clear c11b1); (try clear c11b2); (try clear c11b3); (try clear c20b0); (try clear c21b0); (try clear c23b0); (try clear c23b1); (try clear c23b2); (try clear c24b0); (try clear c24b1); (try clear c24b2); (try clear c24b3); (try clear c26b0); (try clear c26b1); (try clear c26b2); (try clear c26b3); (try clear c27b0); (try clear c27b1); (try clear c27b2); (try clear c27b3); (try clear c28b0); (try clear c28b1); (try clear c28b2); (try clear c28b3); (try clear c29); (try clear c29b0); (try clear c29b1); (try clear c29b2); (try clear c29b3); (try clear c5b0); (try clear c5b1); (try clear c5b2); (try clear c6b0); (try clear c6b1); (try clear c6b2); (try clear c6b3); (try clear c7b0); (try clear c7b1); (try clear c7b2); (try clear c7b3); (try clear c8b0); (try clear c8b1); (try clear c8b2); (try clear c8b3)
                   have HyL := Aside0.mk hyL
                   clear hyL
                   go_wp2
                   have hyL := HyL.out
                   clear HyL
                   subst hyL
                   go_roundg k1
                   case measure => have := HK1.out; omega
                   case rel => exact ⟨((((((x3_1 ++ t217) ++ (⟨#[32]⟩ : ByteArray)) ++ t219) ++ (⟨#[32]⟩ : ByteArray)) ++ (strOfNums y221)) ++ (⟨#[10]⟩ : ByteArray)), (wrap64 (x4_1 + 1)), (by first | rfl | (simp; done) | (simp [*]; done)), (by first | rfl | (simp; done) | (simp [*]; done)), H', ⟨by have := HK1.out; omega⟩, ⟨bq_ BK209⟩, ⟨bh_ HB⟩⟩
                 ·rw [if_neg c29] at H
                  exact absurd H (by simp)
                ·rw [if_neg c28] at H
                 exact absurd H (by simp)
               ·rw [if_neg c27] at H
                exact absurd H (by simp)
              ·rw [if_neg c26] at H
               exact absurd H (by simp)
             ·rw [if_neg c24] at H
              exact absurd H (by simp)
            ·rw [if_neg c23] at H
             exact absurd H (by simp)
           ·rw [if_neg c21] at H
            exact absurd H (by simp)
          ·rw [if_neg c20] at H
           have c20b0 : decide (x4_1 < (l0_3.length : Int)) = false := decide_eq_false c20
           clear c20
           obtain rfl := Option.some.inj H
           obtain ⟨hcz43_0, hcz43_1, hcz43_2, hcz43_3, hfz43_0, hfz43_1, hfz43_2, hfz43_3⟩ := c4_ BK209
           go_wp2
           go_ret
           exact ⟨by first | rfl | (simp [errW_none, errW_some] <;> rfl) | (simp [*, errW_none, errW_some] <;> rfl), bh_ HB⟩
       ·rw [if_neg c11] at H
        exact absurd H (by simp)
      ·rw [if_neg c10] at H
       exact absurd H (by simp)
     ·rw [if_neg c8] at H
      exact absurd H (by simp)
    ·rw [if_neg c7] at H
     exact absurd H (by simp)
   ·rw [if_neg c6] at H
    exact absurd H (by simp)
  ·rw [if_neg c5] at H
   exact absurd H (by simp)
 ·replace c3 := Bool.eq_false_iff.mpr c3
  subst c3
  have H1 : (some (⟨#[]⟩ : ByteArray)) = some r := by rw [if_neg (show ¬ (false = true) by decide)] at H; exact H
  clear H
  have H := H1
  clear H1
  obtain rfl := Option.some.inj H
  go_enter Tryz.func16, Tryz.ntmps16
  go_wp2_with (first | ((with_reducible refine gate_dst (N := 1) rfl ?_); refine box_e 1 #[.int .i64 a0_0, .int .i64 a0_1, .int .u8 a0_2, .slice A0_3 l0_3.length c0_3] 26 ?_; intro gb209 hg w44 hbox hb; have BK209 := Aside0.mk hbox; have GW209 := bg_ HB hg; have GE209 := bg_ HB hg; replace HB := bs_ HB hb; clear hb hbox hg; obtain ⟨hcz45_0, hcz45_1, hcz45_2, hcz45_3, hfz45_0, hfz45_1, hfz45_2, hfz45_3⟩ := c4_ BK209) | ((with_reducible refine gate_callee (f := 15) rfl ?_); refine gl_ (some 6) rfl rfl Tryz.func15 (by kernel_rfl) rfl #[.agg #[.int .i64 a0_0, .int .i64 a0_1, .int .u8 a0_2, .slice A0_3 l0_3.length c0_3]] rfl ?_; (with_reducible refine (salvorref16_MayMap.calls k a0_0 a0_1 a0_2 _ _ l0_3 false _ ?side1 ?side2 A2.out).mono ?_); (case side1 => exact cb_ HR0_3 HB); (case side2 => exact HC0_3.out); rintro e w46 ⟨rfl, hb⟩; refine ⟨_, rfl, ?_⟩; replace BK209 := bb_ BK209 hb; replace HB := bs_ HB hb; (try clear hb)))
  go_ret
  exact ⟨by first | rfl | (simp [errW_none, errW_some] <;> rfl) | (simp [*, errW_none, errW_some] <;> rfl), bh_ HB⟩

end Go.Proofs.YtlcablcpcbmgeaaGreatDoor.P
