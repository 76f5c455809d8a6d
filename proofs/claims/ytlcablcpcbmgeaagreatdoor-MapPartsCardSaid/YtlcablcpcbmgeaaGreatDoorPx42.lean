/- Laid by a program of this session's own (wip/wprint.py, over the kit's print.py): functions of the given program as plain Lean functions, and that the program's calls come to their answers. -/
import Derived.Test.YtlcablcpcbmgeaaGreatDoorPx0
import Derived.Test.YtlcablcpcbmgeaaGreatDoorPx6
import Derived.Test.YtlcablcpcbmgeaaGreatDoorPx21
import Derived.Test.YtlcablcpcbmgeaaGreatDoorPx22
import Derived.Test.YtlcablcpcbmgeaaGreatDoorPx23
import Derived.Test.YtlcablcpcbmgeaaGreatDoorPx41
import Derived.Test.YtlcablcpcbmgeaaGreatDoorWThree
namespace Go.Proofs.YtlcablcpcbmgeaaGreatDoor.P
open Go.RowKit Go.Proofs.YtlcablcpcbmgeaaGreatDoorW.PrintWords Go.Proofs.YtlcablcpcbmgeaaGreatDoorW.PrintLast Go.Proofs.YtlcablcpcbmgeaaGreatDoorW.PrintMore
attribute [local go_sem] max2_int min2_int max_two min_two max_three min_three max_four min_four   -- for this text's walks alone
set_option linter.unusedVariables false
set_option linter.unusedSimpArgs false

/-! ### salvorlaw17_MapParts: function 9 -/
mutual
def salvorlaw17_MapParts.j0 : Nat → Int → List (S75) → Int → Int → Bool → Option (Bool)
 | 0, _, _, _, _, _ => none
 | k + 1, x0, x1, x2, x3, x27 => if x27 = true then ((salvorlaw17_MapRuns.f k).bind fun t395 => (some t395)) else ((salvorlaw16_Made.f k x0 x1).bind fun t396 => (if (t396.length : Int) = 0 then (some false) else (salvorlaw17_MapParts.l0 k x3 (Int.tmod (wrap64 (x2)) (t396.length : Int)) (⟨#[48, 32, 43, 32, 48, 10]⟩ : ByteArray) (⟨#[48, 32, 43, 32, 48, 10]⟩ : ByteArray) 0 0 0 43 t396)))
def salvorlaw17_MapParts.l0 : Nat → Int → Int → ByteArray → ByteArray → Int → Int → Int → Int → List (S23) → Option (Bool)
 | 0, _, _, _, _, _, _, _, _, _ => none
 | k + 1, x3, x10, x12, x13, x14, x400000, x400001, x400002, x400003 => if x14 < (x400003.length : Int) then (if 0 ≤ x14 then ((num_Dec.f ((rd_T23 x400003 x14).f0)).bind fun t402 => (if t402.size + 1 ≤ 9223372036854775807 then ((num_Dec.f ((rd_T23 x400003 x14).f1)).bind fun t403 => (if (t402 ++ (⟨#[32]⟩ : ByteArray)).size + t403.size ≤ 9223372036854775807 then (if ((t402 ++ (⟨#[32]⟩ : ByteArray)) ++ t403).size + 1 ≤ 9223372036854775807 then ((some (([(rd_T23 x400003 x14).f2] : List Int) : List Int)).bind fun y404 => (if (((t402 ++ (⟨#[32]⟩ : ByteArray)) ++ t403) ++ (⟨#[32]⟩ : ByteArray)).size + (strOfNums y404).size ≤ 9223372036854775807 then (if ((((t402 ++ (⟨#[32]⟩ : ByteArray)) ++ t403) ++ (⟨#[32]⟩ : ByteArray)) ++ (strOfNums y404)).size + 1 ≤ 9223372036854775807 then (if x14 = x10 then (if ((rd_T23 x400003 x14).f1) > 1 then ((num_Dec.f ((rd_T23 x400003 x14).f0)).bind fun t407 => (if t407.size + 3 ≤ 9223372036854775807 then ((some (([(rd_T23 x400003 x14).f2] : List Int) : List Int)).bind fun y408 => (if (t407 ++ (⟨#[32, 49, 32]⟩ : ByteArray)).size + (strOfNums y408).size ≤ 9223372036854775807 then (if ((t407 ++ (⟨#[32, 49, 32]⟩ : ByteArray)) ++ (strOfNums y408)).size + 1 ≤ 9223372036854775807 then ((num_Dec.f (wrap64 (((rd_T23 x400003 x14).f0) + 1))).bind fun t411 => (if (((t407 ++ (⟨#[32, 49, 32]⟩ : ByteArray)) ++ (strOfNums y408)) ++ (⟨#[10]⟩ : ByteArray)).size + t411.size ≤ 9223372036854775807 then (if ((((t407 ++ (⟨#[32, 49, 32]⟩ : ByteArray)) ++ (strOfNums y408)) ++ (⟨#[10]⟩ : ByteArray)) ++ t411).size + 1 ≤ 9223372036854775807 then ((num_Dec.f (wrap64 (((rd_T23 x400003 x14).f1) - 1))).bind fun t412 => (if (((((t407 ++ (⟨#[32, 49, 32]⟩ : ByteArray)) ++ (strOfNums y408)) ++ (⟨#[10]⟩ : ByteArray)) ++ t411) ++ (⟨#[32]⟩ : ByteArray)).size + t412.size ≤ 9223372036854775807 then (if ((((((t407 ++ (⟨#[32, 49, 32]⟩ : ByteArray)) ++ (strOfNums y408)) ++ (⟨#[10]⟩ : ByteArray)) ++ t411) ++ (⟨#[32]⟩ : ByteArray)) ++ t412).size + 1 ≤ 9223372036854775807 then ((some (([(rd_T23 x400003 x14).f2] : List Int) : List Int)).bind fun y413 => (if (((((((t407 ++ (⟨#[32, 49, 32]⟩ : ByteArray)) ++ (strOfNums y408)) ++ (⟨#[10]⟩ : ByteArray)) ++ t411) ++ (⟨#[32]⟩ : ByteArray)) ++ t412) ++ (⟨#[32]⟩ : ByteArray)).size + (strOfNums y413).size ≤ 9223372036854775807 then (if ((((((((t407 ++ (⟨#[32, 49, 32]⟩ : ByteArray)) ++ (strOfNums y408)) ++ (⟨#[10]⟩ : ByteArray)) ++ t411) ++ (⟨#[32]⟩ : ByteArray)) ++ t412) ++ (⟨#[32]⟩ : ByteArray)) ++ (strOfNums y413)).size + 1 ≤ 9223372036854775807 then (salvorlaw17_MapParts.j2 k x3 x10 x12 x13 x14 (((((((((t407 ++ (⟨#[32, 49, 32]⟩ : ByteArray)) ++ (strOfNums y408)) ++ (⟨#[10]⟩ : ByteArray)) ++ t411) ++ (⟨#[32]⟩ : ByteArray)) ++ t412) ++ (⟨#[32]⟩ : ByteArray)) ++ (strOfNums y413)) ++ (⟨#[10]⟩ : ByteArray)) x400000 x400001 x400002 x400003 ((rd_T23 x400003 x14).f0) ((rd_T23 x400003 x14).f1) ((rd_T23 x400003 x14).f2)) else (none)) else (none))) else (none)) else (none))) else (none)) else (none))) else (none)) else (none))) else (none))) else (salvorlaw17_MapParts.j2 k x3 x10 x12 x13 x14 (((((t402 ++ (⟨#[32]⟩ : ByteArray)) ++ t403) ++ (⟨#[32]⟩ : ByteArray)) ++ (strOfNums y404)) ++ (⟨#[10]⟩ : ByteArray)) x400000 x400001 x400002 x400003 ((rd_T23 x400003 x14).f0) ((rd_T23 x400003 x14).f1) ((rd_T23 x400003 x14).f2))) else (if x12.size + (((((t402 ++ (⟨#[32]⟩ : ByteArray)) ++ t403) ++ (⟨#[32]⟩ : ByteArray)) ++ (strOfNums y404)) ++ (⟨#[10]⟩ : ByteArray)).size ≤ 9223372036854775807 then (if x13.size + (((((t402 ++ (⟨#[32]⟩ : ByteArray)) ++ t403) ++ (⟨#[32]⟩ : ByteArray)) ++ (strOfNums y404)) ++ (⟨#[10]⟩ : ByteArray)).size ≤ 9223372036854775807 then (salvorlaw17_MapParts.l0 k x3 x10 (x12 ++ (((((t402 ++ (⟨#[32]⟩ : ByteArray)) ++ t403) ++ (⟨#[32]⟩ : ByteArray)) ++ (strOfNums y404)) ++ (⟨#[10]⟩ : ByteArray))) (x13 ++ (((((t402 ++ (⟨#[32]⟩ : ByteArray)) ++ t403) ++ (⟨#[32]⟩ : ByteArray)) ++ (strOfNums y404)) ++ (⟨#[10]⟩ : ByteArray))) (wrap64 (x14 + 1)) x400000 x400001 x400002 x400003) else (none)) else (none))) else (none)) else (none))) else (none)) else (none))) else (none))) else (none)) else ((maptext_Parse.f k x12).bind fun bt422 => ((maptext_Parse.f k x13).bind fun bt430 => (if bt422.2.2.2.2 = 0 then ((salvorref16_SameMap.f k bt422.1 bt422.2.1 bt422.2.2.1 bt422.2.2.2.1 x400000 x400001 x400002 x400003).bind fun t438 => (if t438 = true then (if bt430.2.2.2.2 = 6 then ((salvorlaw17_MapRuns.f k).bind fun t439 => (some t439)) else (some false)) else (some false))) else (some false))))
def salvorlaw17_MapParts.j2 : Nat → Int → Int → ByteArray → ByteArray → Int → ByteArray → Int → Int → Int → List (S23) → Int → Int → Int → Option (Bool)
 | 0, _, _, _, _, _, _, _, _, _, _, _, _, _ => none
 | k + 1, x3, x10, x12, x13, x14, x16, x400000, x400001, x400002, x400003, x402000, x402001, x402002 => if x12.size + x16.size ≤ 9223372036854775807 then (if (Int.tmod x3 4) = 0 then ((num_Dec.f (wrap64 (x402000 + 1))).bind fun t416 => (if x13.size + t416.size ≤ 9223372036854775807 then (if (x13 ++ t416).size + 1 ≤ 9223372036854775807 then ((num_Dec.f x402001).bind fun t417 => (if ((x13 ++ t416) ++ (⟨#[32]⟩ : ByteArray)).size + t417.size ≤ 9223372036854775807 then (if (((x13 ++ t416) ++ (⟨#[32]⟩ : ByteArray)) ++ t417).size + 3 ≤ 9223372036854775807 then (salvorlaw17_MapParts.l0 k x3 x10 (x12 ++ x16) ((((x13 ++ t416) ++ (⟨#[32]⟩ : ByteArray)) ++ t417) ++ (⟨#[32, 43, 10]⟩ : ByteArray)) (wrap64 (x14 + 1)) x400000 x400001 x400002 x400003) else (none)) else (none))) else (none)) else (none))) else (if (Int.tmod x3 4) = 1 then ((num_Dec.f x402000).bind fun t418 => (if x13.size + t418.size ≤ 9223372036854775807 then (if (x13 ++ t418).size + 5 ≤ 9223372036854775807 then (if ((x13 ++ t418) ++ (⟨#[32, 48, 32, 43, 10]⟩ : ByteArray)).size + x16.size ≤ 9223372036854775807 then (salvorlaw17_MapParts.l0 k x3 x10 (x12 ++ x16) (((x13 ++ t418) ++ (⟨#[32, 48, 32, 43, 10]⟩ : ByteArray)) ++ x16) (wrap64 (x14 + 1)) x400000 x400001 x400002 x400003) else (none)) else (none)) else (none))) else (if (Int.tmod x3 4) = 2 then ((num_Dec.f x402000).bind fun t419 => (if x13.size + t419.size ≤ 9223372036854775807 then (if (x13 ++ t419).size + 1 ≤ 9223372036854775807 then ((num_Dec.f x402001).bind fun t420 => (if ((x13 ++ t419) ++ (⟨#[32]⟩ : ByteArray)).size + t420.size ≤ 9223372036854775807 then (if (((x13 ++ t419) ++ (⟨#[32]⟩ : ByteArray)) ++ t420).size + 3 ≤ 9223372036854775807 then (salvorlaw17_MapParts.l0 k x3 x10 (x12 ++ x16) ((((x13 ++ t419) ++ (⟨#[32]⟩ : ByteArray)) ++ t420) ++ (⟨#[32, 120, 10]⟩ : ByteArray)) (wrap64 (x14 + 1)) x400000 x400001 x400002 x400003) else (none)) else (none))) else (none)) else (none))) else (if x13.size + x16.size ≤ 9223372036854775807 then ((num_Dec.f x402000).bind fun t421 => (if (x13 ++ x16).size + t421.size ≤ 9223372036854775807 then (if ((x13 ++ x16) ++ t421).size + 5 ≤ 9223372036854775807 then (salvorlaw17_MapParts.l0 k x3 x10 (x12 ++ x16) (((x13 ++ x16) ++ t421) ++ (⟨#[32, 49, 32, 43, 10]⟩ : ByteArray)) (wrap64 (x14 + 1)) x400000 x400001 x400002 x400003) else (none)) else (none))) else (none))))) else (none)
end
def salvorlaw17_MapParts.f (k : Nat) (a0 : Int) (l1 : List (S75)) (a2 : Int) (a3 : Int) : Option (Bool) := if (l1.length : Int) > 20 then (salvorlaw17_MapParts.j0 k a0 l1 a2 a3 true) else (salvorlaw17_MapParts.j0 k a0 l1 a2 a3 (a0 == 0))
theorem salvorlaw17_MapParts.mono_l : ∀ k, (∀ y0 y1 y2 y3 y4, LeO (salvorlaw17_MapParts.j0 k y0 y1 y2 y3 y4) (salvorlaw17_MapParts.j0 (k + 1) y0 y1 y2 y3 y4)) ∧ (∀ y0 y1 y2 y3 y4 y5 y6 y7 y8, LeO (salvorlaw17_MapParts.l0 k y0 y1 y2 y3 y4 y5 y6 y7 y8) (salvorlaw17_MapParts.l0 (k + 1) y0 y1 y2 y3 y4 y5 y6 y7 y8)) ∧ (∀ y0 y1 y2 y3 y4 y5 y6 y7 y8 y9 y10 y11 y12, LeO (salvorlaw17_MapParts.j2 k y0 y1 y2 y3 y4 y5 y6 y7 y8 y9 y10 y11 y12) (salvorlaw17_MapParts.j2 (k + 1) y0 y1 y2 y3 y4 y5 y6 y7 y8 y9 y10 y11 y12))
 | 0 => ⟨fun _ _ _ _ _ r h => by simp [salvorlaw17_MapParts.j0] at h, fun _ _ _ _ _ _ _ _ _ r h => by simp [salvorlaw17_MapParts.l0] at h, fun _ _ _ _ _ _ _ _ _ _ _ _ _ r h => by simp [salvorlaw17_MapParts.j2] at h⟩
 | k + 1 => by
  obtain ⟨ih0, ih1, ih2⟩ := salvorlaw17_MapParts.mono_l k
  refine ⟨?_, ?_, ?_⟩
  ·intro y0 y1 y2 y3 y4
   unfold salvorlaw17_MapParts.j0
   repeat' first
   | (with_reducible exact ih0 _ _ _ _ _)
   | (with_reducible exact ih1 _ _ _ _ _ _ _ _ _)
   | (with_reducible exact ih2 _ _ _ _ _ _ _ _ _ _ _ _ _)
   | (with_reducible exact maptext_Parse.mono _ _)
   | (with_reducible exact salvorlaw16_Made.mono _ _ _)
   | (with_reducible exact salvorlaw17_MapRuns.mono _)
   | (with_reducible exact salvorref16_SameMap.mono _ _ _ _ _ _ _ _ _)
   | (with_reducible exact LeO.refl _)
   | (with_reducible exact LeO.none _)
   | (with_reducible refine LeO.ite ?_ ?_)
   | (with_reducible refine LeO.bind ?_ (fun _ => ?_))
   | exact ih0 _ _ _ _ _
   | exact ih1 _ _ _ _ _ _ _ _ _
   | exact ih2 _ _ _ _ _ _ _ _ _ _ _ _ _
   | exact maptext_Parse.mono _ _
   | exact salvorlaw16_Made.mono _ _ _
   | exact salvorlaw17_MapRuns.mono _
   | exact salvorref16_SameMap.mono _ _ _ _ _ _ _ _ _
   | exact LeO.none _
   | refine LeO.ite ?_ ?_
   | refine LeO.bind ?_ (fun _ => ?_)
  ·intro y0 y1 y2 y3 y4 y5 y6 y7 y8
   unfold salvorlaw17_MapParts.l0
   repeat' first
   | (with_reducible exact ih0 _ _ _ _ _)
   | (with_reducible exact ih1 _ _ _ _ _ _ _ _ _)
   | (with_reducible exact ih2 _ _ _ _ _ _ _ _ _ _ _ _ _)
   | (with_reducible exact maptext_Parse.mono _ _)
   | (with_reducible exact salvorlaw16_Made.mono _ _ _)
   | (with_reducible exact salvorlaw17_MapRuns.mono _)
   | (with_reducible exact salvorref16_SameMap.mono _ _ _ _ _ _ _ _ _)
   | (with_reducible exact LeO.refl _)
   | (with_reducible exact LeO.none _)
   | (with_reducible refine LeO.ite ?_ ?_)
   | (with_reducible refine LeO.bind ?_ (fun _ => ?_))
   | exact ih0 _ _ _ _ _
   | exact ih1 _ _ _ _ _ _ _ _ _
   | exact ih2 _ _ _ _ _ _ _ _ _ _ _ _ _
   | exact maptext_Parse.mono _ _
   | exact salvorlaw16_Made.mono _ _ _
   | exact salvorlaw17_MapRuns.mono _
   | exact salvorref16_SameMap.mono _ _ _ _ _ _ _ _ _
   | exact LeO.none _
   | refine LeO.ite ?_ ?_
   | refine LeO.bind ?_ (fun _ => ?_)
  ·intro y0 y1 y2 y3 y4 y5 y6 y7 y8 y9 y10 y11 y12
   unfold salvorlaw17_MapParts.j2
   repeat' first
   | (with_reducible exact ih0 _ _ _ _ _)
   | (with_reducible exact ih1 _ _ _ _ _ _ _ _ _)
   | (with_reducible exact ih2 _ _ _ _ _ _ _ _ _ _ _ _ _)
   | (with_reducible exact maptext_Parse.mono _ _)
   | (with_reducible exact salvorlaw16_Made.mono _ _ _)
   | (with_reducible exact salvorlaw17_MapRuns.mono _)
   | (with_reducible exact salvorref16_SameMap.mono _ _ _ _ _ _ _ _ _)
   | (with_reducible exact LeO.refl _)
   | (with_reducible exact LeO.none _)
   | (with_reducible refine LeO.ite ?_ ?_)
   | (with_reducible refine LeO.bind ?_ (fun _ => ?_))
   | exact ih0 _ _ _ _ _
   | exact ih1 _ _ _ _ _ _ _ _ _
   | exact ih2 _ _ _ _ _ _ _ _ _ _ _ _ _
   | exact maptext_Parse.mono _ _
   | exact salvorlaw16_Made.mono _ _ _
   | exact salvorlaw17_MapRuns.mono _
   | exact salvorref16_SameMap.mono _ _ _ _ _ _ _ _ _
   | exact LeO.none _
   | refine LeO.ite ?_ ?_
   | refine LeO.bind ?_ (fun _ => ?_)
theorem salvorlaw17_MapParts.mono : ∀ a0 a1 a2 a3 k, LeO (salvorlaw17_MapParts.f k a0 a1 a2 a3) (salvorlaw17_MapParts.f (k + 1) a0 a1 a2 a3) := by
 intro a0 a1 a2 a3 k
 obtain ⟨ih0, ih1, ih2⟩ := salvorlaw17_MapParts.mono_l k
 unfold salvorlaw17_MapParts.f
 repeat' first
   | (with_reducible exact ih0 _ _ _ _ _)
   | (with_reducible exact ih1 _ _ _ _ _ _ _ _ _)
   | (with_reducible exact ih2 _ _ _ _ _ _ _ _ _ _ _ _ _)
   | (with_reducible exact maptext_Parse.mono _ _)
   | (with_reducible exact salvorlaw16_Made.mono _ _ _)
   | (with_reducible exact salvorlaw17_MapRuns.mono _)
   | (with_reducible exact salvorref16_SameMap.mono _ _ _ _ _ _ _ _ _)
   | (with_reducible exact LeO.refl _)
   | (with_reducible exact LeO.none _)
   | (with_reducible refine LeO.ite ?_ ?_)
   | (with_reducible refine LeO.bind ?_ (fun _ => ?_))
   | exact ih0 _ _ _ _ _
   | exact ih1 _ _ _ _ _ _ _ _ _
   | exact ih2 _ _ _ _ _ _ _ _ _ _ _ _ _
   | exact maptext_Parse.mono _ _
   | exact salvorlaw16_Made.mono _ _ _
   | exact salvorlaw17_MapRuns.mono _
   | exact salvorref16_SameMap.mono _ _ _ _ _ _ _ _ _
   | exact LeO.none _
   | refine LeO.ite ?_ ?_
   | refine LeO.bind ?_ (fun _ => ?_)
def salvorlaw17_MapParts.T13 : Bool × List (List Nat × List Nat) := (true, [([], []), ([0], [0]), ([1], [1]), ([2], [2]), ([], []), ([4], [4]), ([5, 2], [5]), ([3, 6], [3, 6]), ([7], [7]), ([], []), ([9], [9]), ([10], [10]), ([11], [11]), ([8, 12], [8, 12]), ([13], [13]), ([14, 6, 0, 1, 2, 3, 4, 5, 6, 7, 8, 9, 10, 11, 12, 13, 14], [14])])
def salvorlaw17_MapParts.B13 : List Nat := [0, 1, 3, 7, 0, 16, 55, 127, 255, 0, 512, 1536, 3584, 8191, 16383, 32767]
theorem salvorlaw17_MapParts.tab13 : rtab .any (opsOf Tryz.f9 13) = salvorlaw17_MapParts.T13 := by kernel_rfl
theorem salvorlaw17_MapParts.bits13 : waitsOk salvorlaw17_MapParts.T13.2 salvorlaw17_MapParts.B13 = true := by kernel_rfl
def salvorlaw17_MapParts.T17 : Bool × List (List Nat × List Nat) := (true, [([], []), ([0], [0]), ([1], [1]), ([2], [2]), ([], []), ([4], [4]), ([5], [5]), ([6], [6]), ([3, 7], [3, 7]), ([8], [8]), ([], []), ([10], [10]), ([11], [11]), ([12, 2], [12]), ([9, 13], [9, 13]), ([14], [14]), ([], []), ([16], [16]), ([17], [17]), ([18, 13], [18]), ([15, 19], [15, 19]), ([20], [20]), ([], []), ([22], [22]), ([23], [23]), ([24], [24]), ([21, 25], [21, 25]), ([26], [26]), ([27, 19, 0, 1, 2, 3, 4, 5, 6, 7, 8, 9, 10, 11, 12, 13, 14, 15, 16, 17, 18, 19, 20, 21, 22, 23, 24, 25, 26, 27], [27])])
def salvorlaw17_MapParts.B17 : List Nat := [0, 1, 3, 7, 0, 16, 48, 112, 255, 511, 0, 1024, 3072, 7175, 16383, 32767, 0, 65536, 196608, 474119, 1048575, 2097151, 0, 4194304, 12582912, 29360128, 67108863, 134217727, 268435455]
theorem salvorlaw17_MapParts.tab17 : rtab .any (opsOf Tryz.f9 17) = salvorlaw17_MapParts.T17 := by kernel_rfl
theorem salvorlaw17_MapParts.bits17 : waitsOk salvorlaw17_MapParts.T17.2 salvorlaw17_MapParts.B17 = true := by kernel_rfl
def salvorlaw17_MapParts.T22 : Bool × List (List Nat × List Nat) := (true, [([], []), ([], []), ([1], [1]), ([2], [2]), ([3], [3]), ([0, 4], [0, 4]), ([5], [5]), ([], []), ([7], [7]), ([8, 4], [8]), ([6, 9], [6, 9]), ([10], [10]), ([11, 9, 0, 1, 2, 3, 4, 5, 6, 7, 8, 9, 10, 11], [0, 11])])
def salvorlaw17_MapParts.B22 : List Nat := [0, 0, 2, 6, 14, 31, 63, 0, 128, 414, 1023, 2047, 4095]
theorem salvorlaw17_MapParts.tab22 : rtab .any (opsOf Tryz.f9 22) = salvorlaw17_MapParts.T22 := by kernel_rfl
theorem salvorlaw17_MapParts.bits22 : waitsOk salvorlaw17_MapParts.T22.2 salvorlaw17_MapParts.B22 = true := by kernel_rfl
def salvorlaw17_MapParts.T26 : Bool × List (List Nat × List Nat) := (true, [([], []), ([], []), ([1], [1]), ([2], [2]), ([0, 3], [0, 3]), ([4], [4]), ([], []), ([6], [6]), ([7, 3], [7]), ([5, 8], [5, 8]), ([9], [9]), ([10, 8, 0, 1, 2, 3, 4, 5, 6, 7, 8, 9, 10], [0, 10])])
def salvorlaw17_MapParts.B26 : List Nat := [0, 0, 2, 6, 15, 31, 0, 64, 206, 511, 1023, 2047]
theorem salvorlaw17_MapParts.tab26 : rtab .any (opsOf Tryz.f9 26) = salvorlaw17_MapParts.T26 := by kernel_rfl
theorem salvorlaw17_MapParts.bits26 : waitsOk salvorlaw17_MapParts.T26.2 salvorlaw17_MapParts.B26 = true := by kernel_rfl
theorem nx_ {P : Program} {md : Region.Mode} {ops : Array Oper} {Q : Exit → Act → World → Prop} {S : World → Prop} {ds : List Nat} {fuel : Nat} {l : Array Bool} {a a' : Act} {w : World} (h : wpAnyLast P md ops Q S ds fuel l a' w)
    (ha : a = a' := by first | (simp only [putAll, Act.put, List.setIfInBounds_toArray, List.set_cons_zero, List.set_cons_succ]; done) | (simp only [putAll, Act.put, List.setIfInBounds_toArray, List.set_cons_zero, List.set_cons_succ]; rfl)) : wpAnyLast P md ops Q S ds fuel l a w := norm_ ha h
theorem ky_ {A B : Prop} (h : Aside0 A) (f : A → B := by intro h_; (with_reducible repeat (first | apply Kd.R_alloc | apply Kd.R_drewN | apply Kd.R_drew)); exact h_) : B := f h.out
abbrev bz_0 : Array Bool := #[false, false, false, false, false, false, false, false, false, false, false, false, false, false, false, false]
abbrev bz_1 : Array Bool := #[true, true, true, true, true, true, true, true, true, true, true, true, true, false, false, false]
abbrev bz_2 : Array Bool := #[true, true, true, true, true, true, true, true, true, true, true, true, false, false, false, false]
abbrev bz_3 : Array Bool := #[true, true, true, true, true, true, false, false, false, true, true, true, true, false, false, false]
abbrev bz_4 : Array Bool := #[true, true, true, true, true, true, true, false, false, true, true, true, true, false, false, false]
abbrev bz_5 : Array Bool := #[true, true, true, true, true, true, true, true, true, true, true, false, false, false, false, false]
abbrev bz_6 : Array Bool := #[true, true, true, true, true, true, false, false, false, true, true, true, false, false, false, false]
abbrev bz_7 : Array Bool := #[true, true, true, true, true, true, true, false, false, true, true, true, false, false, false, false]
abbrev bz_8 : Array Bool := #[true, true, false, false, true, true, false, false, false, true, true, true, true, false, false, false]
abbrev bz_9 : Array Bool := #[true, true, true, false, true, true, false, false, false, true, true, true, true, false, false, false]
abbrev bz_10 : Array Bool := #[true, true, true, true, true, true, false, false, false, true, true, false, false, false, false, false]
abbrev bz_11 : Array Bool := #[true, true, true, true, true, true, true, false, false, true, true, false, false, false, false, false]
abbrev bz_12 : Array Bool := #[true, true, false, false, true, true, false, false, false, true, true, true, false, false, false, false]
abbrev bz_13 : Array Bool := #[true, true, true, false, true, true, false, false, false, true, true, true, false, false, false, false]
abbrev bz_14 : Array Bool := #[true, true, true, false, true, true, false, false, false, true, true, false, false, false, false, false]
abbrev bz_15 : Array Bool := #[false, false, false, false, false, false, false, false, false, false, false, false, false, false, false, false, false, false, false, false, false, false, false, false, false, false, false, false, false]
abbrev bz_16 : Array Bool := #[true, true, true, true, true, true, true, true, true, true, true, true, true, true, true, true, true, true, true, true, true, true, true, true, true, true, false, false, false]
abbrev bz_17 : Array Bool := #[true, true, true, true, true, true, true, true, true, true, true, true, true, true, true, true, true, true, true, true, true, true, true, true, true, false, false, false, false]
abbrev bz_18 : Array Bool := #[true, true, true, true, true, true, true, true, true, true, true, true, true, true, true, true, true, true, true, false, false, false, true, true, true, true, false, false, false]
abbrev bz_19 : Array Bool := #[true, true, true, true, true, true, true, true, true, true, true, true, true, true, true, true, true, true, true, true, false, false, true, true, true, true, false, false, false]
abbrev bz_20 : Array Bool := #[true, true, true, true, true, true, true, false, false, false, true, true, true, true, false, false, true, true, true, true, false, false, true, true, true, true, false, false, false]
abbrev bz_21 : Array Bool := #[true, true, true, true, true, true, true, true, false, false, true, true, true, true, false, false, true, true, true, true, false, false, true, true, true, true, false, false, false]
abbrev bz_22 : Array Bool := #[true, true, true, true, true, true, true, true, true, true, true, true, true, true, true, true, true, true, true, true, true, true, true, true, false, false, false, false, false]
abbrev bz_23 : Array Bool := #[true, true, true, true, true, true, true, true, true, true, true, true, true, true, true, true, true, true, true, false, false, false, true, true, true, false, false, false, false]
abbrev bz_24 : Array Bool := #[true, true, true, true, true, true, true, true, true, true, true, true, true, true, true, true, true, true, true, true, false, false, true, true, true, false, false, false, false]
abbrev bz_25 : Array Bool := #[true, true, true, true, true, true, true, true, true, true, true, true, true, false, false, false, true, true, true, false, false, false, true, true, true, true, false, false, false]
abbrev bz_26 : Array Bool := #[true, true, true, true, true, true, true, true, true, true, true, true, true, true, false, false, true, true, true, false, false, false, true, true, true, true, false, false, false]
abbrev bz_27 : Array Bool := #[true, true, true, true, true, true, true, false, false, false, true, true, true, true, false, false, true, true, true, true, false, false, true, true, true, false, false, false, false]
abbrev bz_28 : Array Bool := #[true, true, true, true, true, true, true, true, false, false, true, true, true, true, false, false, true, true, true, true, false, false, true, true, true, false, false, false, false]
abbrev bz_29 : Array Bool := #[true, true, true, true, true, true, true, false, false, false, true, true, true, true, false, false, true, true, true, false, false, false, true, true, true, true, false, false, false]
abbrev bz_30 : Array Bool := #[true, true, true, true, true, true, true, true, false, false, true, true, true, true, false, false, true, true, true, false, false, false, true, true, true, true, false, false, false]
abbrev bz_31 : Array Bool := #[true, true, true, true, true, true, false, false, false, false, true, true, true, true, false, false, true, true, true, true, false, false, true, true, true, true, false, false, false]
abbrev bz_32 : Array Bool := #[true, true, true, true, true, true, true, true, true, true, true, true, true, true, true, true, true, true, true, false, false, false, true, true, false, false, false, false, false]
abbrev bz_33 : Array Bool := #[true, true, true, true, true, true, true, true, true, true, true, true, true, true, true, true, true, true, true, true, false, false, true, true, false, false, false, false, false]
abbrev bz_34 : Array Bool := #[true, true, true, true, true, true, true, true, true, true, true, true, true, false, false, false, true, true, true, false, false, false, true, true, true, false, false, false, false]
abbrev bz_35 : Array Bool := #[true, true, true, true, true, true, true, true, true, true, true, true, true, true, false, false, true, true, true, false, false, false, true, true, true, false, false, false, false]
abbrev bz_36 : Array Bool := #[true, true, true, true, true, true, true, false, false, false, true, true, true, true, false, false, true, true, true, true, false, false, true, true, false, false, false, false, false]
abbrev bz_37 : Array Bool := #[true, true, true, true, true, true, true, true, false, false, true, true, true, true, false, false, true, true, true, true, false, false, true, true, false, false, false, false, false]
abbrev bz_38 : Array Bool := #[true, true, true, true, true, true, true, false, false, false, true, true, true, true, false, false, true, true, true, false, false, false, true, true, true, false, false, false, false]
abbrev bz_39 : Array Bool := #[true, true, true, true, true, true, true, true, false, false, true, true, true, true, false, false, true, true, true, false, false, false, true, true, true, false, false, false, false]
abbrev bz_40 : Array Bool := #[true, true, true, true, true, true, true, false, false, false, true, true, true, false, false, false, true, true, true, false, false, false, true, true, true, true, false, false, false]
abbrev bz_41 : Array Bool := #[true, true, true, true, true, true, true, true, false, false, true, true, true, false, false, false, true, true, true, false, false, false, true, true, true, true, false, false, false]
abbrev bz_42 : Array Bool := #[true, true, true, true, true, true, false, false, false, false, true, true, true, true, false, false, true, true, true, true, false, false, true, true, true, false, false, false, false]
abbrev bz_43 : Array Bool := #[true, true, true, true, true, true, false, false, false, false, true, true, true, true, false, false, true, true, true, false, false, false, true, true, true, true, false, false, false]
abbrev bz_44 : Array Bool := #[true, true, false, false, true, true, true, true, false, false, true, true, true, false, false, false, true, true, true, false, false, false, true, true, true, true, false, false, false]
abbrev bz_45 : Array Bool := #[true, true, true, false, true, true, true, true, false, false, true, true, true, false, false, false, true, true, true, false, false, false, true, true, true, true, false, false, false]
abbrev bz_46 : Array Bool := #[true, true, true, true, true, true, true, true, true, true, true, true, true, false, false, false, true, true, true, false, false, false, true, true, false, false, false, false, false]
abbrev bz_47 : Array Bool := #[true, true, true, true, true, true, true, true, true, true, true, true, true, true, false, false, true, true, true, false, false, false, true, true, false, false, false, false, false]
abbrev bz_48 : Array Bool := #[true, true, true, true, true, true, true, false, false, false, true, true, true, true, false, false, true, true, true, false, false, false, true, true, false, false, false, false, false]
abbrev bz_49 : Array Bool := #[true, true, true, true, true, true, true, true, false, false, true, true, true, true, false, false, true, true, true, false, false, false, true, true, false, false, false, false, false]
abbrev bz_50 : Array Bool := #[true, true, true, true, true, true, true, false, false, false, true, true, true, false, false, false, true, true, true, false, false, false, true, true, true, false, false, false, false]
abbrev bz_51 : Array Bool := #[true, true, true, true, true, true, true, true, false, false, true, true, true, false, false, false, true, true, true, false, false, false, true, true, true, false, false, false, false]
abbrev bz_52 : Array Bool := #[true, true, true, true, true, true, false, false, false, false, true, true, true, true, false, false, true, true, true, true, false, false, true, true, false, false, false, false, false]
abbrev bz_53 : Array Bool := #[true, true, true, true, true, true, false, false, false, false, true, true, true, true, false, false, true, true, true, false, false, false, true, true, true, false, false, false, false]
abbrev bz_54 : Array Bool := #[true, true, true, true, true, true, false, false, false, false, true, true, true, false, false, false, true, true, true, false, false, false, true, true, true, true, false, false, false]
abbrev bz_55 : Array Bool := #[true, true, false, false, true, true, true, true, false, false, true, true, true, false, false, false, true, true, true, false, false, false, true, true, true, false, false, false, false]
abbrev bz_56 : Array Bool := #[true, true, true, false, true, true, true, true, false, false, true, true, true, false, false, false, true, true, true, false, false, false, true, true, true, false, false, false, false]
abbrev bz_57 : Array Bool := #[true, true, false, false, true, true, true, false, false, false, true, true, true, false, false, false, true, true, true, false, false, false, true, true, true, true, false, false, false]
abbrev bz_58 : Array Bool := #[true, true, true, false, true, true, true, false, false, false, true, true, true, false, false, false, true, true, true, false, false, false, true, true, true, true, false, false, false]
abbrev bz_59 : Array Bool := #[true, true, true, true, true, true, true, false, false, false, true, true, true, false, false, false, true, true, true, false, false, false, true, true, false, false, false, false, false]
abbrev bz_60 : Array Bool := #[true, true, true, true, true, true, true, true, false, false, true, true, true, false, false, false, true, true, true, false, false, false, true, true, false, false, false, false, false]
abbrev bz_61 : Array Bool := #[true, true, true, true, true, true, false, false, false, false, true, true, true, true, false, false, true, true, true, false, false, false, true, true, false, false, false, false, false]
abbrev bz_62 : Array Bool := #[true, true, true, true, true, true, false, false, false, false, true, true, true, false, false, false, true, true, true, false, false, false, true, true, true, false, false, false, false]
abbrev bz_63 : Array Bool := #[true, true, false, false, true, true, true, true, false, false, true, true, true, false, false, false, true, true, true, false, false, false, true, true, false, false, false, false, false]
abbrev bz_64 : Array Bool := #[true, true, true, false, true, true, true, true, false, false, true, true, true, false, false, false, true, true, true, false, false, false, true, true, false, false, false, false, false]
abbrev bz_65 : Array Bool := #[true, true, false, false, true, true, true, false, false, false, true, true, true, false, false, false, true, true, true, false, false, false, true, true, true, false, false, false, false]
abbrev bz_66 : Array Bool := #[true, true, true, false, true, true, true, false, false, false, true, true, true, false, false, false, true, true, true, false, false, false, true, true, true, false, false, false, false]
abbrev bz_67 : Array Bool := #[true, true, false, false, true, true, false, false, false, false, true, true, true, false, false, false, true, true, true, false, false, false, true, true, true, true, false, false, false]
abbrev bz_68 : Array Bool := #[true, true, true, false, true, true, false, false, false, false, true, true, true, false, false, false, true, true, true, false, false, false, true, true, true, true, false, false, false]
abbrev bz_69 : Array Bool := #[true, true, true, true, true, true, false, false, false, false, true, true, true, false, false, false, true, true, true, false, false, false, true, true, false, false, false, false, false]
abbrev bz_70 : Array Bool := #[true, true, false, false, true, true, true, false, false, false, true, true, true, false, false, false, true, true, true, false, false, false, true, true, false, false, false, false, false]
abbrev bz_71 : Array Bool := #[true, true, true, false, true, true, true, false, false, false, true, true, true, false, false, false, true, true, true, false, false, false, true, true, false, false, false, false, false]
abbrev bz_72 : Array Bool := #[true, true, false, false, true, true, false, false, false, false, true, true, true, false, false, false, true, true, true, false, false, false, true, true, true, false, false, false, false]
abbrev bz_73 : Array Bool := #[true, true, true, false, true, true, false, false, false, false, true, true, true, false, false, false, true, true, true, false, false, false, true, true, true, false, false, false, false]
abbrev bz_74 : Array Bool := #[true, true, true, false, true, true, false, false, false, false, true, true, true, false, false, false, true, true, true, false, false, false, true, true, false, false, false, false, false]
abbrev bz_75 : Array Bool := #[false, false, false, false, false, false, false, false, false, false, false, false, false]
abbrev bz_76 : Array Bool := #[true, true, true, true, true, false, false, true, true, false, false, false, false]
abbrev bz_77 : Array Bool := #[true, true, true, true, true, true, true, true, true, true, false, false, false]
abbrev bz_78 : Array Bool := #[false, false, false, false, false, false, false, false, false, false, false, false]
abbrev bz_79 : Array Bool := #[true, true, true, true, false, false, true, true, false, false, false, false]
abbrev bz_80 : Array Bool := #[true, true, true, true, true, true, true, true, true, false, false, false]
end Go.Proofs.YtlcablcpcbmgeaaGreatDoor.P
