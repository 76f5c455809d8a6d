/- Laid by a program of this session's own (wip/wprint.py, over the kit's print.py): functions of the given program as plain Lean functions, and that the program's calls come to their answers. -/
import Derived.Test.YtnoilinjlelpaaaPx0
import Derived.Test.YtnoilinjlelpaaaPx20
import Derived.Test.YtnoilinjlelpaaaPx24
import Derived.Test.YtnoilinjlelpaaaPx25
import Derived.Test.YtnoilinjlelpaaaPx28
namespace Go.Proofs.Ytnoilinjlelpaaa.P
open Go.RowKit Go.Proofs.YtnoilinjlelpaaaW.PrintWords Go.Proofs.YtnoilinjlelpaaaW.PrintLast Go.Proofs.YtnoilinjlelpaaaW.PrintMore
attribute [local go_sem] max2_int min2_int max_two min_two max_three min_three max_four min_four   -- for this text's walks alone
set_option linter.unusedVariables false
set_option linter.unusedSimpArgs false

/-! ### salvorref16_next: function 41 -/
mutual
def salvorref16_next.j0 : Nat → Bool → Int → Int → Bool → Int → Int → Int → List (S33) → Option (Int × Int × Int × Bool)
 | 0, _, _, _, _, _, _, _, _ => none
 | k + 1, x23, x363000, x363001, x363002, x364000, x364001, x364002, x364003 => if x23 = true then (some (0, 0, 0, false)) else (salvorref16_next.j1 k x363000 x363001 x363002 x364000 x364001 x364002 x364003)
def salvorref16_next.j1 : Nat → Int → Int → Bool → Int → Int → Int → List (S33) → Option (Int × Int × Int × Bool)
 | 0, _, _, _, _, _, _, _ => none
 | k + 1, x363000, x363001, x363002, x364000, x364001, x364002, x364003 => (salvorref16_begin.f k x363000 x363001 x363002 x364003).bind fun t367 => ((salvorref16_side.f k x363000 x363001 x363002 x364003 63 t367).bind fun bt368 => (if bt368.2.2.2 = true then ((salvorref16_part.f x363000 x363001 x363002 bt368.1 bt368.2.1 bt368.2.2.1 x363000 1).bind fun bt373 => (some (bt373.1, bt373.2.1, bt373.2.2, false))) else (salvorref16_next.j2 k x363000 x363001 x363002 x364000 x364001 x364002 x364003)))
def salvorref16_next.j2 : Nat → Int → Int → Bool → Int → Int → Int → List (S33) → Option (Int × Int × Int × Bool)
 | 0, _, _, _, _, _, _, _ => none
 | k + 1, x363000, x363001, x363002, x364000, x364001, x364002, x364003 => (salvorref16_begin.f k x363000 x363001 x363002 x364003).bind fun t376 => ((salvorref16_side.f k x363000 x363001 x363002 x364003 42 t376).bind fun bt377 => (if bt377.2.2.2 = true then ((salvorref16_part.f x363000 x363001 x363002 bt377.1 bt377.2.1 bt377.2.2.1 1 2).bind fun bt382 => (some (bt382.1, bt382.2.1, bt382.2.2, false))) else (salvorref16_next.j3 k x363000 x363001 x363002 x364000 x364001 x364002 x364003)))
def salvorref16_next.j3 : Nat → Int → Int → Bool → Int → Int → Int → List (S33) → Option (Int × Int × Int × Bool)
 | 0, _, _, _, _, _, _, _ => none
 | k + 1, x363000, x363001, x363002, x364000, x364001, x364002, x364003 => (salvorref16_begin.f k x363000 x363001 x363002 x364003).bind fun t385 => ((salvorref16_side.f k x363000 x363001 x363002 x364003 47 t385).bind fun bt386 => (if bt386.2.2.2 = true then ((salvorref16_part.f x363000 x363001 x363002 bt386.1 bt386.2.1 bt386.2.2.1 1 3).bind fun bt391 => (some (bt391.1, bt391.2.1, bt391.2.2, false))) else (salvorref16_next.j4 k x363000 x363001 x363002 x364000 x364001 x364002 x364003)))
def salvorref16_next.j4 : Nat → Int → Int → Bool → Int → Int → Int → List (S33) → Option (Int × Int × Int × Bool)
 | 0, _, _, _, _, _, _, _ => none
 | k + 1, x363000, x363001, x363002, x364000, x364001, x364002, x364003 => if x364001 ≥ x363001 then (some (0, 0, 0, false)) else (salvorref16_next.j5 k x363000 x363001 x363002 x364000 x364001 x364002 x364003)
def salvorref16_next.j5 : Nat → Int → Int → Bool → Int → Int → Int → List (S33) → Option (Int × Int × Int × Bool)
 | 0, _, _, _, _, _, _, _ => none
 | k + 1, x363000, x363001, x363002, x364000, x364001, x364002, x364003 => (salvorref16_side.f k x363000 x363001 x363002 x364003 45 x364000).bind fun bt394 => (if bt394.2.2.2 = true then ((salvorref16_part.f x363000 x363001 x363002 bt394.1 bt394.2.1 bt394.2.2.1 1 4).bind fun bt399 => (some (bt399.1, bt399.2.1, bt399.2.2, false))) else (salvorref16_next.j6 k x363000 x363001 x363002 x364000 x364001 x364002 x364003))
def salvorref16_next.j6 : Nat → Int → Int → Bool → Int → Int → Int → List (S33) → Option (Int × Int × Int × Bool)
 | 0, _, _, _, _, _, _, _ => none
 | k + 1, x363000, x363001, x363002, x364000, x364001, x364002, x364003 => (salvorref16_begin.f k x363000 x363001 x363002 x364003).bind fun t402 => ((salvorref16_side.f k x363000 x363001 x363002 x364003 45 t402).bind fun bt403 => (if bt403.2.2.2 = true then (salvorref16_next.j7 k (decide ((wrap64 (x364001 + 1)) < x363001)) x363000 x363001 x363002 bt403.1 bt403.2.1 bt403.2.2.1) else (salvorref16_next.j7 k false x363000 x363001 x363002 bt403.1 bt403.2.1 bt403.2.2.1)))
def salvorref16_next.j7 : Nat → Bool → Int → Int → Bool → Int → Int → Int → Option (Int × Int × Int × Bool)
 | 0, _, _, _, _, _, _, _ => none
 | k + 1, x110, x363000, x363001, x363002, x408000, x408001, x408002 => if x110 = true then ((salvorref16_part.f x363000 x363001 x363002 x408000 x408001 x408002 1 4).bind fun bt408 => (some (bt408.1, bt408.2.1, bt408.2.2, true))) else (some (0, 0, 0, false))
end
def salvorref16_next.f (k : Nat) (a0_0 : Int) (a0_1 : Int) (a0_2 : Bool) (a1_0 : Int) (a1_1 : Int) (a1_2 : Int) (l1_3 : List (S33)) : Option (Int × Int × Int × Bool) := (salvorref16_MayOpts.f a0_0 a0_1 a0_2).bind fun t365 => (if t365 = true then ((salvorref16_MayMap.f k a1_0 a1_1 a1_2 l1_3).bind fun t366 => (salvorref16_next.j0 k (!t366) a0_0 a0_1 a0_2 a1_0 a1_1 a1_2 l1_3)) else (salvorref16_next.j0 k true a0_0 a0_1 a0_2 a1_0 a1_1 a1_2 l1_3))
theorem salvorref16_next.mono_l : ∀ k, (∀ y0 y1 y2 y3 y4 y5 y6 y7, LeO (salvorref16_next.j0 k y0 y1 y2 y3 y4 y5 y6 y7) (salvorref16_next.j0 (k + 1) y0 y1 y2 y3 y4 y5 y6 y7)) ∧ (∀ y0 y1 y2 y3 y4 y5 y6, LeO (salvorref16_next.j1 k y0 y1 y2 y3 y4 y5 y6) (salvorref16_next.j1 (k + 1) y0 y1 y2 y3 y4 y5 y6)) ∧ (∀ y0 y1 y2 y3 y4 y5 y6, LeO (salvorref16_next.j2 k y0 y1 y2 y3 y4 y5 y6) (salvorref16_next.j2 (k + 1) y0 y1 y2 y3 y4 y5 y6)) ∧ (∀ y0 y1 y2 y3 y4 y5 y6, LeO (salvorref16_next.j3 k y0 y1 y2 y3 y4 y5 y6) (salvorref16_next.j3 (k + 1) y0 y1 y2 y3 y4 y5 y6)) ∧ (∀ y0 y1 y2 y3 y4 y5 y6, LeO (salvorref16_next.j4 k y0 y1 y2 y3 y4 y5 y6) (salvorref16_next.j4 (k + 1) y0 y1 y2 y3 y4 y5 y6)) ∧ (∀ y0 y1 y2 y3 y4 y5 y6, LeO (salvorref16_next.j5 k y0 y1 y2 y3 y4 y5 y6) (salvorref16_next.j5 (k + 1) y0 y1 y2 y3 y4 y5 y6)) ∧ (∀ y0 y1 y2 y3 y4 y5 y6, LeO (salvorref16_next.j6 k y0 y1 y2 y3 y4 y5 y6) (salvorref16_next.j6 (k + 1) y0 y1 y2 y3 y4 y5 y6)) ∧ (∀ y0 y1 y2 y3 y4 y5 y6, LeO (salvorref16_next.j7 k y0 y1 y2 y3 y4 y5 y6) (salvorref16_next.j7 (k + 1) y0 y1 y2 y3 y4 y5 y6))
 | 0 => ⟨fun _ _ _ _ _ _ _ _ r h => by simp [salvorref16_next.j0] at h, fun _ _ _ _ _ _ _ r h => by simp [salvorref16_next.j1] at h, fun _ _ _ _ _ _ _ r h => by simp [salvorref16_next.j2] at h, fun _ _ _ _ _ _ _ r h => by simp [salvorref16_next.j3] at h, fun _ _ _ _ _ _ _ r h => by simp [salvorref16_next.j4] at h, fun _ _ _ _ _ _ _ r h => by simp [salvorref16_next.j5] at h, fun _ _ _ _ _ _ _ r h => by simp [salvorref16_next.j6] at h, fun _ _ _ _ _ _ _ r h => by simp [salvorref16_next.j7] at h⟩
 | k + 1 => by
  obtain ⟨ih0, ih1, ih2, ih3, ih4, ih5, ih6, ih7⟩ := salvorref16_next.mono_l k
  refine ⟨?_, ?_, ?_, ?_, ?_, ?_, ?_, ?_⟩
  ·intro y0 y1 y2 y3 y4 y5 y6 y7
   unfold salvorref16_next.j0
   repeat' first
   | (with_reducible exact ih0 _ _ _ _ _ _ _ _)
   | (with_reducible exact ih1 _ _ _ _ _ _ _)
   | (with_reducible exact ih2 _ _ _ _ _ _ _)
   | (with_reducible exact ih3 _ _ _ _ _ _ _)
   | (with_reducible exact ih4 _ _ _ _ _ _ _)
   | (with_reducible exact ih5 _ _ _ _ _ _ _)
   | (with_reducible exact ih6 _ _ _ _ _ _ _)
   | (with_reducible exact ih7 _ _ _ _ _ _ _)
   | (with_reducible exact salvorref16_MayMap.mono _ _ _ _ _)
   | (with_reducible exact salvorref16_begin.mono _ _ _ _ _)
   | (with_reducible exact salvorref16_side.mono _ _ _ _ _ _ _)
   | (with_reducible exact LeO.refl _)
   | (with_reducible exact LeO.none _)
   | (with_reducible refine LeO.ite ?_ ?_)
   | (with_reducible refine LeO.bind ?_ (fun _ => ?_))
   | exact ih0 _ _ _ _ _ _ _ _
   | exact ih1 _ _ _ _ _ _ _
   | exact ih2 _ _ _ _ _ _ _
   | exact ih3 _ _ _ _ _ _ _
   | exact ih4 _ _ _ _ _ _ _
   | exact ih5 _ _ _ _ _ _ _
   | exact ih6 _ _ _ _ _ _ _
   | exact ih7 _ _ _ _ _ _ _
   | exact salvorref16_MayMap.mono _ _ _ _ _
   | exact salvorref16_begin.mono _ _ _ _ _
   | exact salvorref16_side.mono _ _ _ _ _ _ _
   | exact LeO.none _
   | refine LeO.ite ?_ ?_
   | refine LeO.bind ?_ (fun _ => ?_)
  ·intro y0 y1 y2 y3 y4 y5 y6
   unfold salvorref16_next.j1
   repeat' first
   | (with_reducible exact ih0 _ _ _ _ _ _ _ _)
   | (with_reducible exact ih1 _ _ _ _ _ _ _)
   | (with_reducible exact ih2 _ _ _ _ _ _ _)
   | (with_reducible exact ih3 _ _ _ _ _ _ _)
   | (with_reducible exact ih4 _ _ _ _ _ _ _)
   | (with_reducible exact ih5 _ _ _ _ _ _ _)
   | (with_reducible exact ih6 _ _ _ _ _ _ _)
   | (with_reducible exact ih7 _ _ _ _ _ _ _)
   | (with_reducible exact salvorref16_MayMap.mono _ _ _ _ _)
   | (with_reducible exact salvorref16_begin.mono _ _ _ _ _)
   | (with_reducible exact salvorref16_side.mono _ _ _ _ _ _ _)
   | (with_reducible exact LeO.refl _)
   | (with_reducible exact LeO.none _)
   | (with_reducible refine LeO.ite ?_ ?_)
   | (with_reducible refine LeO.bind ?_ (fun _ => ?_))
   | exact ih0 _ _ _ _ _ _ _ _
   | exact ih1 _ _ _ _ _ _ _
   | exact ih2 _ _ _ _ _ _ _
   | exact ih3 _ _ _ _ _ _ _
   | exact ih4 _ _ _ _ _ _ _
   | exact ih5 _ _ _ _ _ _ _
   | exact ih6 _ _ _ _ _ _ _
   | exact ih7 _ _ _ _ _ _ _
   | exact salvorref16_MayMap.mono _ _ _ _ _
   | exact salvorref16_begin.mono _ _ _ _ _
   | exact salvorref16_side.mono _ _ _ _ _ _ _
   | exact LeO.none _
   | refine LeO.ite ?_ ?_
   | refine LeO.bind ?_ (fun _ => ?_)
  ·intro y0 y1 y2 y3 y4 y5 y6
   unfold salvorref16_next.j2
   repeat' first
   | (with_reducible exact ih0 _ _ _ _ _ _ _ _)
   | (with_reducible exact ih1 _ _ _ _ _ _ _)
   | (with_reducible exact ih2 _ _ _ _ _ _ _)
   | (with_reducible exact ih3 _ _ _ _ _ _ _)
   | (with_reducible exact ih4 _ _ _ _ _ _ _)
   | (with_reducible exact ih5 _ _ _ _ _ _ _)
   | (with_reducible exact ih6 _ _ _ _ _ _ _)
   | (with_reducible exact ih7 _ _ _ _ _ _ _)
   | (with_reducible exact salvorref16_MayMap.mono _ _ _ _ _)
   | (with_reducible exact salvorref16_begin.mono _ _ _ _ _)
   | (with_reducible exact salvorref16_side.mono _ _ _ _ _ _ _)
   | (with_reducible exact LeO.refl _)
   | (with_reducible exact LeO.none _)
   | (with_reducible refine LeO.ite ?_ ?_)
   | (with_reducible refine LeO.bind ?_ (fun _ => ?_))
   | exact ih0 _ _ _ _ _ _ _ _
   | exact ih1 _ _ _ _ _ _ _
   | exact ih2 _ _ _ _ _ _ _
   | exact ih3 _ _ _ _ _ _ _
   | exact ih4 _ _ _ _ _ _ _
   | exact ih5 _ _ _ _ _ _ _
   | exact ih6 _ _ _ _ _ _ _
   | exact ih7 _ _ _ _ _ _ _
   | exact salvorref16_MayMap.mono _ _ _ _ _
   | exact salvorref16_begin.mono _ _ _ _ _
   | exact salvorref16_side.mono _ _ _ _ _ _ _
   | exact LeO.none _
   | refine LeO.ite ?_ ?_
   | refine LeO.bind ?_ (fun _ => ?_)
  ·intro y0 y1 y2 y3 y4 y5 y6
   unfold salvorref16_next.j3
   repeat' first
   | (with_reducible exact ih0 _ _ _ _ _ _ _ _)
   | (with_reducible exact ih1 _ _ _ _ _ _ _)
   | (with_reducible exact ih2 _ _ _ _ _ _ _)
   | (with_reducible exact ih3 _ _ _ _ _ _ _)
   | (with_reducible exact ih4 _ _ _ _ _ _ _)
   | (with_reducible exact ih5 _ _ _ _ _ _ _)
   | (with_reducible exact ih6 _ _ _ _ _ _ _)
   | (with_reducible exact ih7 _ _ _ _ _ _ _)
   | (with_reducible exact salvorref16_MayMap.mono _ _ _ _ _)
   | (with_reducible exact salvorref16_begin.mono _ _ _ _ _)
   | (with_reducible exact salvorref16_side.mono _ _ _ _ _ _ _)
   | (with_reducible exact LeO.refl _)
   | (with_reducible exact LeO.none _)
   | (with_reducible refine LeO.ite ?_ ?_)
   | (with_reducible refine LeO.bind ?_ (fun _ => ?_))
   | exact ih0 _ _ _ _ _ _ _ _
   | exact ih1 _ _ _ _ _ _ _
   | exact ih2 _ _ _ _ _ _ _
   | exact ih3 _ _ _ _ _ _ _
   | exact ih4 _ _ _ _ _ _ _
   | exact ih5 _ _ _ _ _ _ _
   | exact ih6 _ _ _ _ _ _ _
   | exact ih7 _ _ _ _ _ _ _
   | exact salvorref16_MayMap.mono _ _ _ _ _
   | exact salvorref16_begin.mono _ _ _ _ _
   | exact salvorref16_side.mono _ _ _ _ _ _ _
   | exact LeO.none _
   | refine LeO.ite ?_ ?_
   | refine LeO.bind ?_ (fun _ => ?_)
  ·intro y0 y1 y2 y3 y4 y5 y6
   unfold salvorref16_next.j4
   repeat' first
   | (with_reducible exact ih0 _ _ _ _ _ _ _ _)
   | (with_reducible exact ih1 _ _ _ _ _ _ _)
   | (with_reducible exact ih2 _ _ _ _ _ _ _)
   | (with_reducible exact ih3 _ _ _ _ _ _ _)
   | (with_reducible exact ih4 _ _ _ _ _ _ _)
   | (with_reducible exact ih5 _ _ _ _ _ _ _)
   | (with_reducible exact ih6 _ _ _ _ _ _ _)
   | (with_reducible exact ih7 _ _ _ _ _ _ _)
   | (with_reducible exact salvorref16_MayMap.mono _ _ _ _ _)
   | (with_reducible exact salvorref16_begin.mono _ _ _ _ _)
   | (with_reducible exact salvorref16_side.mono _ _ _ _ _ _ _)
   | (with_reducible exact LeO.refl _)
   | (with_reducible exact LeO.none _)
   | (with_reducible refine LeO.ite ?_ ?_)
   | (with_reducible refine LeO.bind ?_ (fun _ => ?_))
   | exact ih0 _ _ _ _ _ _ _ _
   | exact ih1 _ _ _ _ _ _ _
   | exact ih2 _ _ _ _ _ _ _
   | exact ih3 _ _ _ _ _ _ _
   | exact ih4 _ _ _ _ _ _ _
   | exact ih5 _ _ _ _ _ _ _
   | exact ih6 _ _ _ _ _ _ _
   | exact ih7 _ _ _ _ _ _ _
   | exact salvorref16_MayMap.mono _ _ _ _ _
   | exact salvorref16_begin.mono _ _ _ _ _
   | exact salvorref16_side.mono _ _ _ _ _ _ _
   | exact LeO.none _
   | refine LeO.ite ?_ ?_
   | refine LeO.bind ?_ (fun _ => ?_)
  ·intro y0 y1 y2 y3 y4 y5 y6
   unfold salvorref16_next.j5
   repeat' first
   | (with_reducible exact ih0 _ _ _ _ _ _ _ _)
   | (with_reducible exact ih1 _ _ _ _ _ _ _)
   | (with_reducible exact ih2 _ _ _ _ _ _ _)
   | (with_reducible exact ih3 _ _ _ _ _ _ _)
   | (with_reducible exact ih4 _ _ _ _ _ _ _)
   | (with_reducible exact ih5 _ _ _ _ _ _ _)
   | (with_reducible exact ih6 _ _ _ _ _ _ _)
   | (with_reducible exact ih7 _ _ _ _ _ _ _)
   | (with_reducible exact salvorref16_MayMap.mono _ _ _ _ _)
   | (with_reducible exact salvorref16_begin.mono _ _ _ _ _)
   | (with_reducible exact salvorref16_side.mono _ _ _ _ _ _ _)
   | (with_reducible exact LeO.refl _)
   | (with_reducible exact LeO.none _)
   | (with_reducible refine LeO.ite ?_ ?_)
   | (with_reducible refine LeO.bind ?_ (fun _ => ?_))
   | exact ih0 _ _ _ _ _ _ _ _
   | exact ih1 _ _ _ _ _ _ _
   | exact ih2 _ _ _ _ _ _ _
   | exact ih3 _ _ _ _ _ _ _
   | exact ih4 _ _ _ _ _ _ _
   | exact ih5 _ _ _ _ _ _ _
   | exact ih6 _ _ _ _ _ _ _
   | exact ih7 _ _ _ _ _ _ _
   | exact salvorref16_MayMap.mono _ _ _ _ _
   | exact salvorref16_begin.mono _ _ _ _ _
   | exact salvorref16_side.mono _ _ _ _ _ _ _
   | exact LeO.none _
   | refine LeO.ite ?_ ?_
   | refine LeO.bind ?_ (fun _ => ?_)
  ·intro y0 y1 y2 y3 y4 y5 y6
   unfold salvorref16_next.j6
   repeat' first
   | (with_reducible exact ih0 _ _ _ _ _ _ _ _)
   | (with_reducible exact ih1 _ _ _ _ _ _ _)
   | (with_reducible exact ih2 _ _ _ _ _ _ _)
   | (with_reducible exact ih3 _ _ _ _ _ _ _)
   | (with_reducible exact ih4 _ _ _ _ _ _ _)
   | (with_reducible exact ih5 _ _ _ _ _ _ _)
   | (with_reducible exact ih6 _ _ _ _ _ _ _)
   | (with_reducible exact ih7 _ _ _ _ _ _ _)
   | (with_reducible exact salvorref16_MayMap.mono _ _ _ _ _)
   | (with_reducible exact salvorref16_begin.mono _ _ _ _ _)
   | (with_reducible exact salvorref16_side.mono _ _ _ _ _ _ _)
   | (with_reducible exact LeO.refl _)
   | (with_reducible exact LeO.none _)
   | (with_reducible refine LeO.ite ?_ ?_)
   | (with_reducible refine LeO.bind ?_ (fun _ => ?_))
   | exact ih0 _ _ _ _ _ _ _ _
   | exact ih1 _ _ _ _ _ _ _
   | exact ih2 _ _ _ _ _ _ _
   | exact ih3 _ _ _ _ _ _ _
   | exact ih4 _ _ _ _ _ _ _
   | exact ih5 _ _ _ _ _ _ _
   | exact ih6 _ _ _ _ _ _ _
   | exact ih7 _ _ _ _ _ _ _
   | exact salvorref16_MayMap.mono _ _ _ _ _
   | exact salvorref16_begin.mono _ _ _ _ _
   | exact salvorref16_side.mono _ _ _ _ _ _ _
   | exact LeO.none _
   | refine LeO.ite ?_ ?_
   | refine LeO.bind ?_ (fun _ => ?_)
  ·intro y0 y1 y2 y3 y4 y5 y6
   unfold salvorref16_next.j7
   repeat' first
   | (with_reducible exact ih0 _ _ _ _ _ _ _ _)
   | (with_reducible exact ih1 _ _ _ _ _ _ _)
   | (with_reducible exact ih2 _ _ _ _ _ _ _)
   | (with_reducible exact ih3 _ _ _ _ _ _ _)
   | (with_reducible exact ih4 _ _ _ _ _ _ _)
   | (with_reducible exact ih5 _ _ _ _ _ _ _)
   | (with_reducible exact ih6 _ _ _ _ _ _ _)
   | (with_reducible exact ih7 _ _ _ _ _ _ _)
   | (with_reducible exact salvorref16_MayMap.mono _ _ _ _ _)
   | (with_reducible exact salvorref16_begin.mono _ _ _ _ _)
   | (with_reducible exact salvorref16_side.mono _ _ _ _ _ _ _)
   | (with_reducible exact LeO.refl _)
   | (with_reducible exact LeO.none _)
   | (with_reducible refine LeO.ite ?_ ?_)
   | (with_reducible refine LeO.bind ?_ (fun _ => ?_))
   | exact ih0 _ _ _ _ _ _ _ _
   | exact ih1 _ _ _ _ _ _ _
   | exact ih2 _ _ _ _ _ _ _
   | exact ih3 _ _ _ _ _ _ _
   | exact ih4 _ _ _ _ _ _ _
   | exact ih5 _ _ _ _ _ _ _
   | exact ih6 _ _ _ _ _ _ _
   | exact ih7 _ _ _ _ _ _ _
   | exact salvorref16_MayMap.mono _ _ _ _ _
   | exact salvorref16_begin.mono _ _ _ _ _
   | exact salvorref16_side.mono _ _ _ _ _ _ _
   | exact LeO.none _
   | refine LeO.ite ?_ ?_
   | refine LeO.bind ?_ (fun _ => ?_)
theorem salvorref16_next.mono : ∀ a0 a1 a2 a3 a4 a5 a6 k, LeO (salvorref16_next.f k a0 a1 a2 a3 a4 a5 a6) (salvorref16_next.f (k + 1) a0 a1 a2 a3 a4 a5 a6) := by
 intro a0 a1 a2 a3 a4 a5 a6 k
 obtain ⟨ih0, ih1, ih2, ih3, ih4, ih5, ih6, ih7⟩ := salvorref16_next.mono_l k
 unfold salvorref16_next.f
 repeat' first
   | (with_reducible exact ih0 _ _ _ _ _ _ _ _)
   | (with_reducible exact ih1 _ _ _ _ _ _ _)
   | (with_reducible exact ih2 _ _ _ _ _ _ _)
   | (with_reducible exact ih3 _ _ _ _ _ _ _)
   | (with_reducible exact ih4 _ _ _ _ _ _ _)
   | (with_reducible exact ih5 _ _ _ _ _ _ _)
   | (with_reducible exact ih6 _ _ _ _ _ _ _)
   | (with_reducible exact ih7 _ _ _ _ _ _ _)
   | (with_reducible exact salvorref16_MayMap.mono _ _ _ _ _)
   | (with_reducible exact salvorref16_begin.mono _ _ _ _ _)
   | (with_reducible exact salvorref16_side.mono _ _ _ _ _ _ _)
   | (with_reducible exact LeO.refl _)
   | (with_reducible exact LeO.none _)
   | (with_reducible refine LeO.ite ?_ ?_)
   | (with_reducible refine LeO.bind ?_ (fun _ => ?_))
   | exact ih0 _ _ _ _ _ _ _ _
   | exact ih1 _ _ _ _ _ _ _
   | exact ih2 _ _ _ _ _ _ _
   | exact ih3 _ _ _ _ _ _ _
   | exact ih4 _ _ _ _ _ _ _
   | exact ih5 _ _ _ _ _ _ _
   | exact ih6 _ _ _ _ _ _ _
   | exact ih7 _ _ _ _ _ _ _
   | exact salvorref16_MayMap.mono _ _ _ _ _
   | exact salvorref16_begin.mono _ _ _ _ _
   | exact salvorref16_side.mono _ _ _ _ _ _ _
   | exact LeO.none _
   | refine LeO.ite ?_ ?_
   | refine LeO.bind ?_ (fun _ => ?_)
def salvorref16_next.T3 : Bool × List (List Nat × List Nat) := (true, [([], []), ([], []), ([1], [1]), ([], []), ([], []), ([4], [4]), ([3, 5], [3, 5]), ([0, 2, 6, 6], [0, 2, 6]), ([7], [7]), ([8], [8]), ([8], [8]), ([], []), ([11, 9, 7, 0, 1, 2, 3, 4, 5, 6, 7, 8, 9, 11], [9, 11]), ([10, 12, 0, 1, 2, 3, 4, 5, 6, 7, 8, 9, 10, 11, 12], [10])])
def salvorref16_next.B3 : List Nat := [0, 0, 2, 0, 0, 16, 56, 127, 255, 511, 511, 0, 3071, 8191]
theorem salvorref16_next.tab3 : rtab .any (opsOf Try.f41 3) = salvorref16_next.T3 := by kernel_rfl
theorem salvorref16_next.bits3 : waitsOk salvorref16_next.T3.2 salvorref16_next.B3 = true := by kernel_rfl
def salvorref16_next.T6 : Bool × List (List Nat × List Nat) := (true, [([], []), ([], []), ([1], [1]), ([], []), ([], []), ([4], [4]), ([3, 5], [3, 5]), ([0, 2, 6, 6], [0, 2, 6]), ([7], [7]), ([8], [8]), ([8], [8]), ([], []), ([11, 9, 7, 0, 1, 2, 3, 4, 5, 6, 7, 8, 9, 11], [9, 11]), ([10, 12, 0, 1, 2, 3, 4, 5, 6, 7, 8, 9, 10, 11, 12], [10])])
def salvorref16_next.B6 : List Nat := [0, 0, 2, 0, 0, 16, 56, 127, 255, 511, 511, 0, 3071, 8191]
theorem salvorref16_next.tab6 : rtab .any (opsOf Try.f41 6) = salvorref16_next.T6 := by kernel_rfl
theorem salvorref16_next.bits6 : waitsOk salvorref16_next.T6.2 salvorref16_next.B6 = true := by kernel_rfl
def salvorref16_next.T9 : Bool × List (List Nat × List Nat) := (true, [([], []), ([], []), ([1], [1]), ([], []), ([], []), ([4], [4]), ([3, 5], [3, 5]), ([0, 2, 6, 6], [0, 2, 6]), ([7], [7]), ([8], [8]), ([8], [8]), ([], []), ([11, 9, 7, 0, 1, 2, 3, 4, 5, 6, 7, 8, 9, 11], [9, 11]), ([10, 12, 0, 1, 2, 3, 4, 5, 6, 7, 8, 9, 10, 11, 12], [10])])
def salvorref16_next.B9 : List Nat := [0, 0, 2, 0, 0, 16, 56, 127, 255, 511, 511, 0, 3071, 8191]
theorem salvorref16_next.tab9 : rtab .any (opsOf Try.f41 9) = salvorref16_next.T9 := by kernel_rfl
theorem salvorref16_next.bits9 : waitsOk salvorref16_next.T9.2 salvorref16_next.B9 = true := by kernel_rfl
def salvorref16_next.T17 : Bool × List (List Nat × List Nat) := (true, [([], []), ([], []), ([1], [1]), ([], []), ([], []), ([4], [4]), ([3, 5], [3, 5]), ([0, 2, 6, 6], [0, 2, 6]), ([7], [7]), ([8], [8]), ([8], [8]), ([], []), ([11, 9, 7, 0, 1, 2, 3, 4, 5, 6, 7, 8, 9, 11], [9, 11]), ([10, 12, 0, 1, 2, 3, 4, 5, 6, 7, 8, 9, 10, 11, 12], [10])])
def salvorref16_next.B17 : List Nat := [0, 0, 2, 0, 0, 16, 56, 127, 255, 511, 511, 0, 3071, 8191]
theorem salvorref16_next.tab17 : rtab .any (opsOf Try.f41 17) = salvorref16_next.T17 := by kernel_rfl
theorem salvorref16_next.bits17 : waitsOk salvorref16_next.T17.2 salvorref16_next.B17 = true := by kernel_rfl
set_option maxHeartbeats 8000000 in
set_option maxRecDepth 100000 in
theorem salvorref16_next.calls (k : Nat) (a0_0 : Int) (a0_1 : Int) (a0_2 : Bool) (a1_0 : Int) (a1_1 : Int) (a1_2 : Int) (A1_3 : Option Addr) (c1_3 : Nat) (l1_3 : List (S33)) (r1 : Int) (r2 : Int) (r3 : Int) (r4 : Bool) (w : World) (hr1_3 : Kd.C k33 w A1_3 l1_3.length l1_3) (hc1_3 : l1_3.length ≤ c1_3) (h : salvorref16_next.f k a0_0 a0_1 a0_2 a1_0 a1_1 a1_2 l1_3 = some (r1, r2, r3, r4)) :
  Calls Try.prog 41 #[.agg #[.int .i64 a0_0, .int .i64 a0_1, .bool a0_2], .agg #[.int .i64 a1_0, .int .i64 a1_1, .int .u8 a1_2, .slice A1_3 l1_3.length c1_3]] w fun e w' => e = .returned (.tuple #[.agg #[.int .i64 r1, .int .i64 r2, .int .i64 r3], .bool r4]) ∧ Below w.heap.size w w' := by
 have hu23 := Try.underlying23
 have hu26 := Try.underlying26
 have hu29 := Try.underlying29
 have hu33 := Try.underlying33
 have HR1_3 := Aside0.mk hr1_3
 have HC1_3 := Aside0.mk hc1_3
 clear hr1_3 hc1_3
 have HB := Aside0.mk (Below.refl w.heap.size w)
 have H : ((salvorref16_MayOpts.f a0_0 a0_1 a0_2).bind fun t365 => (if t365 = true then ((salvorref16_MayMap.f k a1_0 a1_1 a1_2 l1_3).bind fun t366 => (salvorref16_next.j0 k (!t366) a0_0 a0_1 a0_2 a1_0 a1_1 a1_2 l1_3)) else (salvorref16_next.j0 k true a0_0 a0_1 a0_2 a1_0 a1_1 a1_2 l1_3))) = some (r1, r2, r3, r4) := h
 clear h
 have HC3 := Aside0.mk H
 clear H
 go_enter Try.func41, Try.ntmps41
 go_upto_region 1 with (first | ((with_reducible refine gate_dst (N := 2) rfl ?_); refine box_e 2 #[.int .i64 a0_0, .int .i64 a0_1, .bool a0_2] 23 ?_; intro gb362 hg w4 hbox hb; have BK362 := Aside0.mk hbox; have GW362 := bg_ HB hg; have GE362 := bg_ HB hg; replace HB := bs_ HB hb; clear hb hbox hg) | ((with_reducible refine gate_dst (N := 3) rfl ?_); refine box_e 3 #[.int .i64 a1_0, .int .i64 a1_1, .int .u8 a1_2, .slice A1_3 l1_3.length c1_3] 26 ?_; intro gb363 hg w5 hbox hb; have BK363 := Aside0.mk hbox; have GW363 := bg_ HB hg; have GE363 := bg_ HB hg; have NB362_363 := bn_ BK362 hg; have NB363_362 := bm_ BK362 hg; replace BK362 := bb_ BK362 hb; replace HB := bs_ HB hb; clear hb hbox hg) | ((with_reducible refine gate_dst (N := 4) rfl ?_); refine box_e 4 #[.int .i64 0, .int .i64 0, .int .i64 0] 29 ?_; intro gb364 hg w6 hbox hb; have BK364 := Aside0.mk hbox; have GW364 := bg_ HB hg; have GE364 := bg_ HB hg; have NB362_364 := bn_ BK362 hg; have NB364_362 := bm_ BK362 hg; have NB363_364 := bn_ BK363 hg; have NB364_363 := bm_ BK363 hg; replace BK362 := bb_ BK362 hb; replace BK363 := bb_ BK363 hb; replace HB := bs_ HB hb; clear hb hbox hg))
 (try simp only [Act.put, List.setIfInBounds_toArray, List.set_cons_zero, List.set_cons_succ])
 go_cut [23] (fun v23 wc => ∃ (kq : Nat) (x23_2 : Bool), v23 = .bool x23_2 ∧ Aside0 (salvorref16_next.j0 kq x23_2 a0_0 a0_1 a0_2 a1_0 a1_1 a1_2 l1_3 = some (r1, r2, r3, r4)) ∧ Aside0 (kq ≤ k) ∧ Aside0 (wc.heap[gb362]? = some (.cells #[.int .i64 a0_0, .int .i64 a0_1, .bool a0_2] 23 (0, 0))) ∧ Aside0 (wc.heap[gb363]? = some (.cells #[.int .i64 a1_0, .int .i64 a1_1, .int .u8 a1_2, (.slice A1_3 l1_3.length c1_3)] 26 (0, 0))) ∧ Aside0 (wc.heap[gb364]? = some (.cells #[.int .i64 0, .int .i64 0, .int .i64 0] 29 (0, 0))) ∧ Aside0 (Below w.heap.size w wc))
 case first =>
  have H := HC3.out
  clear HC3
  replace H := Option.bind_eq_some_iff.mp H
  obtain ⟨t365, A70, H⟩ := H
  replace H : (if t365 = true then ((salvorref16_MayMap.f k a1_0 a1_1 a1_2 l1_3).bind fun t366 => (salvorref16_next.j0 k (!t366) a0_0 a0_1 a0_2 a1_0 a1_1 a1_2 l1_3)) else (salvorref16_next.j0 k true a0_0 a0_1 a0_2 a1_0 a1_1 a1_2 l1_3)) = some (r1, r2, r3, r4) := H
  have A7 := Aside0.mk A70
  clear A70
  by_cases c8 : t365 = true
  ·subst c8
   have H1 : ((salvorref16_MayMap.f k a1_0 a1_1 a1_2 l1_3).bind fun t366 => (salvorref16_next.j0 k (!t366) a0_0 a0_1 a0_2 a1_0 a1_1 a1_2 l1_3)) = some (r1, r2, r3, r4) := by rw [if_pos rfl] at H; exact H
   clear H
   have H := H1
   clear H1
   replace H := Option.bind_eq_some_iff.mp H
   obtain ⟨t366, A90, H⟩ := H
   replace H : (salvorref16_next.j0 k (!t366) a0_0 a0_1 a0_2 a1_0 a1_1 a1_2 l1_3) = some (r1, r2, r3, r4) := H
   have A9 := Aside0.mk A90
   clear A90
   have H' := Aside0.mk H
   clear H
   have hnb10 := NB362_363.out
   have hnc10 := NB363_362.out
   have hnb11 := NB362_364.out
   have hnc11 := NB364_362.out
   obtain ⟨hcz12_0, hcz12_1, hcz12_2, hfz12_0, hfz12_1, hfz12_2⟩ := c3_ BK362
   go_wp2_with (first | ((with_reducible refine gate_callee (f := 25) rfl ?_); refine gl_ (some 17) rfl rfl Try.func25 (by kernel_rfl) rfl #[.agg #[.int .i64 a0_0, .int .i64 a0_1, .bool a0_2]] rfl ?_; (with_reducible refine (salvorref16_MayOpts.calls a0_0 a0_1 a0_2 true _ A7.out).mono ?_); rintro e w13 ⟨rfl, hb⟩; refine ⟨_, rfl, ?_⟩; replace BK362 := bb_ BK362 hb; replace BK363 := bb_ BK363 hb; replace BK364 := bb_ BK364 hb; replace HB := bs_ HB hb; (try clear hb); have hnb14 := NB363_364.out; have hnc14 := NB364_363.out; obtain ⟨hcz15_0, hcz15_1, hcz15_2, hcz15_3, hfz15_0, hfz15_1, hfz15_2, hfz15_3⟩ := c4_ BK363) | (go_at_call 40; (with_reducible refine (salvorref16_MayMap.calls k a1_0 a1_1 a1_2 _ _ l1_3 t366 _ ?side1 ?side2 A9.out).mono ?_); (case side1 => exact cb_ HR1_3 HB); (case side2 => exact HC1_3.out); rintro e w16 ⟨rfl, hb⟩; replace BK362 := bb_ BK362 hb; replace BK363 := bb_ BK363 hb; replace BK364 := bb_ BK364 hb; replace HB := bs_ HB hb; (try clear hb)))
   go_meet
   case rel => exact ⟨_, (!t366), (by first | rfl | (simp; done) | (simp [*]; done)), H', ⟨by first | omega | exact Nat.le_refl _⟩, ⟨bq_ BK362⟩, ⟨bq_ BK363⟩, ⟨bq_ BK364⟩, ⟨bh_ HB⟩⟩
  ·replace c8 := Bool.eq_false_iff.mpr c8
   subst c8
   have H1 : (salvorref16_next.j0 k true a0_0 a0_1 a0_2 a1_0 a1_1 a1_2 l1_3) = some (r1, r2, r3, r4) := by rw [if_neg (show ¬ (false = true) by decide)] at H; exact H
   clear H
   have H := H1
   clear H1
   have H' := Aside0.mk H
   clear H
   have hnb17 := NB362_363.out
   have hnc17 := NB363_362.out
   have hnb18 := NB362_364.out
   have hnc18 := NB364_362.out
   obtain ⟨hcz19_0, hcz19_1, hcz19_2, hfz19_0, hfz19_1, hfz19_2⟩ := c3_ BK362
   go_wp2_with (first | ((with_reducible refine gate_callee (f := 25) rfl ?_); refine gl_ (some 17) rfl rfl Try.func25 (by kernel_rfl) rfl #[.agg #[.int .i64 a0_0, .int .i64 a0_1, .bool a0_2]] rfl ?_; (with_reducible refine (salvorref16_MayOpts.calls a0_0 a0_1 a0_2 false _ A7.out).mono ?_); rintro e w20 ⟨rfl, hb⟩; refine ⟨_, rfl, ?_⟩; replace BK362 := bb_ BK362 hb; replace BK363 := bb_ BK363 hb; replace BK364 := bb_ BK364 hb; replace HB := bs_ HB hb; (try clear hb)))
   go_meet
   case rel => exact ⟨_, (true), (by first | rfl | (simp; done) | (simp [*]; done)), H', ⟨by first | omega | exact Nat.le_refl _⟩, ⟨bq_ BK362⟩, ⟨bq_ BK363⟩, ⟨bq_ BK364⟩, ⟨bh_ HB⟩⟩
 case rest =>
  clear HC3
  try clear c1
  try clear c2
  try clear p2
  try clear c4
  try clear c8
  try clear c10
  try clear c11
  try clear c14
  try clear c17
  try clear c18
  try clear hcz12_0 hcz12_1 hcz12_2
  try clear hcz15_0 hcz15_1 hcz15_2 hcz15_3
  try clear hcz19_0 hcz19_1 hcz19_2
  try clear hfz12_0 hfz12_1 hfz12_2
  try clear hfz15_0 hfz15_1 hfz15_2 hfz15_3
  try clear hfz19_0 hfz19_1 hfz19_2
  obtain ⟨kq, x23_2, rfl, HA, HJ2, BK362, BK363, BK364, HB⟩ := hcut
  cases kq with
  | zero => exact absurd HA.out (by simp [salvorref16_next.j0])
  | succ kj2 =>
   have H := HA.out
   clear HA
   simp only [salvorref16_next.j0] at H
   have HC21 := Aside0.mk H
   clear H
   go_upto_if 23 with (fail)
   go_cut [] (fun wc => ∃ (kq : Nat) (x365000_20 : Int) (x365001_20 : Int) (x365002_20 : Int), Aside0 (salvorref16_next.j1 kq a0_0 a0_1 a0_2 a1_0 a1_1 a1_2 l1_3 = some (r1, r2, r3, r4)) ∧ Aside0 (kq ≤ kj2) ∧ Aside0 (wc.heap[gb362]? = some (.cells #[.int .i64 a0_0, .int .i64 a0_1, .bool a0_2] 23 (0, 0))) ∧ Aside0 (wc.heap[gb363]? = some (.cells #[.int .i64 a1_0, .int .i64 a1_1, .int .u8 a1_2, (.slice A1_3 l1_3.length c1_3)] 26 (0, 0))) ∧ Aside0 (wc.heap[gb364]? = some (.cells #[.int .i64 x365000_20, .int .i64 x365001_20, .int .i64 x365002_20] 29 (0, 0))) ∧ Aside0 (Below w.heap.size w wc))
   case first =>
    have H := HC21.out
    clear HC21
    by_cases c22 : x23_2 = true
    ·subst c22
     have H1 : (some (0, 0, 0, false)) = some (r1, r2, r3, r4) := by rw [if_pos rfl] at H; exact H
     clear H
     have H := H1
     clear H1
     simp only [Option.some.injEq, Prod.mk.injEq] at H
     obtain ⟨rfl, rfl, rfl, rfl⟩ := H
     have hnb23 := NB364_362.out
     have hnc23 := NB362_364.out
     have hnb24 := NB364_363.out
     have hnc24 := NB363_364.out
     obtain ⟨hcz25_0, hcz25_1, hcz25_2, hfz25_0, hfz25_1, hfz25_2⟩ := c3_ BK364
     go_wp2
     refine bodyPost_ret (results_ct rfl _ _ gb364 29 #[.int .i64 0, .int .i64 0, .int .i64 0] (0, 0) _ rfl (bp_ BK364) Try.underlying29 rfl (by kernel_rfl)) rfl ?_
     exact ⟨by first | rfl | (simp [errW_none, errW_some] <;> rfl) | (simp [*, errW_none, errW_some] <;> rfl), bh_ HB⟩
    ·replace c22 := Bool.eq_false_iff.mpr c22
     subst c22
     have H1 : (salvorref16_next.j1 kj2 a0_0 a0_1 a0_2 a1_0 a1_1 a1_2 l1_3) = some (r1, r2, r3, r4) := by rw [if_neg (show ¬ (false = true) by decide)] at H; exact H
     clear H
     have H := H1
     clear H1
     have H' := Aside0.mk H
     clear H
     go_wp2
     go_meet
     case rel => exact ⟨_, (0), (0), (0), H', ⟨by have := HJ2.out; first | omega | exact Nat.le_refl _⟩, ⟨bq_ BK362⟩, ⟨bq_ BK363⟩, ⟨bq_ BK364⟩, ⟨bh_ HB⟩⟩
   case rest =>
    clear HC21
    try clear c1
    try clear c2
    try clear p2
    try clear c4
    try clear c8
    try clear c10
    try clear c11
    try clear c14
    try clear c17
    try clear c18
    try clear c22
    try clear c23
    try clear c24
    try clear c25
    try clear hcz12_0 hcz12_1 hcz12_2
    try clear hcz15_0 hcz15_1 hcz15_2 hcz15_3
    try clear hcz19_0 hcz19_1 hcz19_2
    try clear hcz25_0 hcz25_1 hcz25_2
    try clear hfz12_0 hfz12_1 hfz12_2
    try clear hfz15_0 hfz15_1 hfz15_2 hfz15_3
    try clear hfz19_0 hfz19_1 hfz19_2
    try clear hfz25_0 hfz25_1 hfz25_2
    try clear p2
    obtain ⟨kq, x365000_20, x365001_20, x365002_20, HA, HJ20, BK362, BK363, BK364, HB⟩ := hcut
    cases kq with
    | zero => exact absurd HA.out (by simp [salvorref16_next.j1])
    | succ kj20 =>
     have H := HA.out
     clear HA
     simp only [salvorref16_next.j1] at H
     replace H := Option.bind_eq_some_iff.mp H
     obtain ⟨t367, A260, H⟩ := H
     replace H : ((salvorref16_side.f kj20 a0_0 a0_1 a0_2 l1_3 63 t367).bind fun bt368 => (if bt368.2.2.2 = true then ((salvorref16_part.f a0_0 a0_1 a0_2 bt368.1 bt368.2.1 bt368.2.2.1 a0_0 1).bind fun bt373 => (some (bt373.1, bt373.2.1, bt373.2.2, false))) else (salvorref16_next.j2 kj20 a0_0 a0_1 a0_2 a1_0 a1_1 a1_2 l1_3))) = some (r1, r2, r3, r4) := H
     have A26 := Aside0.mk A260
     clear A260
     replace H := Option.bind_eq_some_iff.mp H
     obtain ⟨⟨t368, t369, t370, t371⟩, A270, H⟩ := H
     replace H : (if t371 = true then ((salvorref16_part.f a0_0 a0_1 a0_2 t368 t369 t370 a0_0 1).bind fun bt373 => (some (bt373.1, bt373.2.1, bt373.2.2, false))) else (salvorref16_next.j2 kj20 a0_0 a0_1 a0_2 a1_0 a1_1 a1_2 l1_3)) = some (r1, r2, r3, r4) := H
     have A27 := Aside0.mk A270
     clear A270
     have HC28 := Aside0.mk H
     clear H
     try go_wp2
     replace BK362 := Aside0.mk (blk_drew BK362.out)
     replace BK363 := Aside0.mk (blk_drew BK363.out)
     replace BK364 := Aside0.mk (blk_drew BK364.out)
     replace HB := Aside0.mk (below_drew1 HB.out)
     refine start_ (n := 14) (S := fun w' => w'.cell? ⟨gb362, 0, none⟩ = some (.int .i64 a0_0) ∧ w'.cell? ⟨gb362, 1, none⟩ = some (.int .i64 a0_1) ∧ w'.cell? ⟨gb362, 2, none⟩ = some (.bool a0_2) ∧ w'.cell? ⟨gb363, 0, none⟩ = some (.int .i64 a1_0) ∧ w'.cell? ⟨gb363, 1, none⟩ = some (.int .i64 a1_1) ∧ w'.cell? ⟨gb363, 2, none⟩ = some (.int .u8 a1_2) ∧ w'.cell? ⟨gb363, 3, none⟩ = some (.slice A1_3 l1_3.length c1_3)) (ds := []) #[false, false, false, false, false, false, false, false, false, false, false, false, false, false] (by kernel_rfl) rfl rfl (a3_ (k3_ BK362) (k4_ BK363)) (fun hHeld => ?_); refine with_tabW salvorref16_next.tab3 salvorref16_next.bits3 (fun HT_ HW_ => ?_)
     generalize wc.drew = w29 at BK362 BK363 BK364 HB hHeld ⊢
     refine pu_ 1 27 (lb_ 14 2) rfl rfl (ao_ HT_) ?_
     refine pu_ 4 30 (lb_ 14 18) rfl rfl (ao_ HT_) ?_
     refine tk_ 0 26 (lb_ 14 19) rfl rfl (take_ofW HT_.out HW_.out (by kernel_rfl)) hHeld ?_
     refine tk_ 2 28 (lb_ 14 23) rfl rfl (take_ofW HT_.out HW_.out (by kernel_rfl)) hHeld ?_
     refine tk_ 3 29 (lb_ 14 31) rfl rfl (take_ofW HT_.out HW_.out (by kernel_rfl)) hHeld ?_
     refine tk_ 5 31 (lb_ 14 63) rfl rfl (take_ofW HT_.out HW_.out (by kernel_rfl)) hHeld ?_
     refine join_ (σ := Nat) 2 #[true, true, true, true, true, true, true, true, true, true, true, true, false, false] (fun s_ => [(32, .int .i64 t367), (33, .tuple #[.agg #[.int .i64 t368, .int .i64 t369, .int .u8 t370], .bool t371]), (6, .pointer (some ⟨s_, 0, none⟩)), (25, .tuple #[.agg #[.int .i64 t368, .int .i64 t369, .int .u8 t370], .bool t371]), (34, .agg #[.int .i64 t368, .int .i64 t369, .int .u8 t370]), (35, .bool t371)]) (fun s_ w' => (w'.cell? ⟨gb362, 0, none⟩ = some (.int .i64 a0_0) ∧ w'.cell? ⟨gb362, 1, none⟩ = some (.int .i64 a0_1) ∧ w'.cell? ⟨gb362, 2, none⟩ = some (.bool a0_2) ∧ w'.cell? ⟨gb363, 0, none⟩ = some (.int .i64 a1_0) ∧ w'.cell? ⟨gb363, 1, none⟩ = some (.int .i64 a1_1) ∧ w'.cell? ⟨gb363, 2, none⟩ = some (.int .u8 a1_2) ∧ w'.cell? ⟨gb363, 3, none⟩ = some (.slice A1_3 l1_3.length c1_3)) ∧ (w'.heap[gb362]? = some (.cells #[.int .i64 a0_0, .int .i64 a0_1, .bool a0_2] 23 (0, 0))) ∧ (w'.heap[gb363]? = some (.cells #[.int .i64 a1_0, .int .i64 a1_1, .int .u8 a1_2, .slice A1_3 l1_3.length c1_3] 26 (0, 0))) ∧ (w'.heap[gb364]? = some (.cells #[.int .i64 x365000_20, .int .i64 x365001_20, .int .i64 x365002_20] 29 (0, 0))) ∧ (w'.heap[s_]? = some (.cells #[.int .i64 0, .int .i64 0, .int .u8 0] 33 (0, 0))) ∧ (w.heap.size ≤ s_) ∧ (w.heap.size ≤ s_) ∧ (gb362 ≠ s_) ∧ (s_ ≠ gb362) ∧ (gb363 ≠ s_) ∧ (s_ ≠ gb363) ∧ (gb364 ≠ s_) ∧ (s_ ≠ gb364) ∧ (Below w.heap.size w w')) ?_ ?_
     rotate_left
     ·intro hCont
      refine two_ (i := 6) (j := 11) (Ni := some 32) (Nj := some 6) #[true, true, true, true, true, true, true, false, false, false, false, false, false, false] #[true, true, true, true, true, true, false, false, false, false, false, true, false, false] rfl rfl rfl rfl (two_of HT_.out (by kernel_rfl)) (by decide) (by decide) (fun K hK => ?_) (fun K hK => ?_)
      ·skip
       refine gq_ Try.func52 (by kernel_rfl) rfl #[.agg #[.int .i64 a0_0, .int .i64 a0_1, .bool a0_2], .slice A1_3 l1_3.length c1_3] (by rfl) rfl rfl ?_
       with_reducible refine (salvorref16_begin.calls kj20 a0_0 a0_1 a0_2 _ _ l1_3 t367 _ ?side1 ?side2 A26.out).mono ?_
       (case side1 => exact cb_ HR1_3 HB)
       (case side2 => exact HC1_3.out)
       rintro e w30 ⟨rfl, hb⟩
       refine ⟨_, rfl, ?_⟩
       replace BK362 := bb_ BK362 hb
       replace BK363 := bb_ BK363 hb
       replace BK364 := bb_ BK364 hb
       replace HB := bs_ HB hb
       (try clear hb)
       refine hK.out _ _ (a3_ (k3_ BK362) (k4_ BK363)) (fun hHeld => ?_)
       clear hK K
       refine nm_ 32 ?_
       refine two_ (i := 7) (j := 11) (Ni := some 33) (Nj := some 6) #[true, true, true, true, true, true, true, true, false, false, false, false, false, false] #[true, true, true, true, true, true, true, false, false, false, false, true, false, false] rfl rfl rfl rfl (two_of HT_.out (by kernel_rfl)) (by decide) (by decide) (fun K hK => ?_) (fun K hK => ?_)
       ·skip
        refine gq_ Try.func62 (by kernel_rfl) rfl #[.agg #[.int .i64 a0_0, .int .i64 a0_1, .bool a0_2], .slice A1_3 l1_3.length c1_3, .int .u8 63, .int .i64 t367] (by rfl) rfl rfl ?_
        with_reducible refine (salvorref16_side.calls kj20 a0_0 a0_1 a0_2 _ _ l1_3 63 t367 t368 t369 t370 t371 _ ?side1 ?side2 A27.out).mono ?_
        (case side1 => exact cb_ HR1_3 HB)
        (case side2 => exact HC1_3.out)
        rintro e w31 ⟨rfl, hb⟩
        refine ⟨_, rfl, ?_⟩
        replace BK362 := bb_ BK362 hb
        replace BK363 := bb_ BK363 hb
        replace BK364 := bb_ BK364 hb
        replace HB := bs_ HB hb
        (try clear hb)
        refine hK.out _ _ (a3_ (k3_ BK362) (k4_ BK363)) (fun hHeld => ?_)
        clear hK K
        refine nm_ 33 ?_
        refine pu_ 8 25 (lb_ 14 511) rfl rfl (ao_ HT_) ?_
        refine pu_ 9 34 (lb_ 14 1023) rfl rfl (ao_ HT_) ?_
        refine pu_ 10 35 (lb_ 14 2047) rfl rfl (ao_ HT_) ?_
        refine one_ (i := 11) (N := some 6) #[true, true, true, true, true, true, true, true, true, true, true, true, false, false] rfl rfl (one_of HT_.out (by kernel_rfl)) (by decide) (fun K hK => ?_)
        refine box_step ?hg (N := 6) ?hd (cs := #[.int .i64 0, .int .i64 0, .int .u8 0]) (t := 33) ?hr ?_; (case hd => rfl); (case hg => rfl); (case hr => first | (go_simp; done) | (go_simp; rfl))
        intro gb372 hg w32 hbox hb
        have BK372 := Aside0.mk hbox
        have GW372 := bg_ HB hg
        have GE372 := bg_ HB hg
        have NB362_372 := bn_ BK362 hg
        have NB372_362 := bm_ BK362 hg
        have NB363_372 := bn_ BK363 hg
        have NB372_363 := bm_ BK363 hg
        have NB364_372 := bn_ BK364 hg
        have NB372_364 := bm_ BK364 hg
        replace BK362 := bb_ BK362 hb
        replace BK363 := bb_ BK363 hb
        replace BK364 := bb_ BK364 hb
        replace HB := bs_ HB hb
        clear hb hbox hg
        refine hK.out _ _ (a3_ (k3_ BK362) (k4_ BK363)) (fun hHeld => ?_)
        clear hK K
        refine nm_ 6 ?_
        exact norm_ (by simp only [putAll, Act.put, List.setIfInBounds_toArray, List.set_cons_zero, List.set_cons_succ]) (hCont (gb372) _ ⟨hHeld, (bq_ BK362), (bq_ BK363), (bq_ BK364), (bq_ BK372), GW372.out, GE372.out, NB362_372.out, NB372_362.out, NB363_372.out, NB372_363.out, NB364_372.out, NB372_364.out, (bh_ HB)⟩)
       ·skip
        refine box_step ?hg (N := 6) ?hd (cs := #[.int .i64 0, .int .i64 0, .int .u8 0]) (t := 33) ?hr ?_; (case hd => rfl); (case hg => rfl); (case hr => first | (go_simp; done) | (go_simp; rfl))
        intro gb372 hg w31 hbox hb
        have BK372 := Aside0.mk hbox
        have GW372 := bg_ HB hg
        have GE372 := bg_ HB hg
        have NB362_372 := bn_ BK362 hg
        have NB372_362 := bm_ BK362 hg
        have NB363_372 := bn_ BK363 hg
        have NB372_363 := bm_ BK363 hg
        have NB364_372 := bn_ BK364 hg
        have NB372_364 := bm_ BK364 hg
        replace BK362 := bb_ BK362 hb
        replace BK363 := bb_ BK363 hb
        replace BK364 := bb_ BK364 hb
        replace HB := bs_ HB hb
        clear hb hbox hg
        refine hK.out _ _ (a3_ (k3_ BK362) (k4_ BK363)) (fun hHeld => ?_)
        clear hK K
        refine nm_ 6 ?_
        refine one_ (i := 7) (N := some 33) #[true, true, true, true, true, true, true, true, false, false, false, true, false, false] rfl rfl (one_of HT_.out (by kernel_rfl)) (by decide) (fun K hK => ?_)
        refine gq_ Try.func62 (by kernel_rfl) rfl #[.agg #[.int .i64 a0_0, .int .i64 a0_1, .bool a0_2], .slice A1_3 l1_3.length c1_3, .int .u8 63, .int .i64 t367] (by rfl) rfl rfl ?_
        with_reducible refine (salvorref16_side.calls kj20 a0_0 a0_1 a0_2 _ _ l1_3 63 t367 t368 t369 t370 t371 _ ?side1 ?side2 A27.out).mono ?_
        (case side1 => exact cb_ HR1_3 HB)
        (case side2 => exact HC1_3.out)
        rintro e w32 ⟨rfl, hb⟩
        refine ⟨_, rfl, ?_⟩
        replace BK362 := bb_ BK362 hb
        replace BK363 := bb_ BK363 hb
        replace BK364 := bb_ BK364 hb
        replace BK372 := bb_ BK372 hb
        replace HB := bs_ HB hb
        (try clear hb)
        refine hK.out _ _ (a3_ (k3_ BK362) (k4_ BK363)) (fun hHeld => ?_)
        clear hK K
        refine nm_ 33 ?_
        refine pu_ 8 25 (lb_ 14 2559) rfl rfl (ao_ HT_) ?_
        refine pu_ 9 34 (lb_ 14 3071) rfl rfl (ao_ HT_) ?_
        refine pu_ 10 35 (lb_ 14 4095) rfl rfl (ao_ HT_) ?_
        exact norm_ (by simp only [putAll, Act.put, List.setIfInBounds_toArray, List.set_cons_zero, List.set_cons_succ]) (hCont (gb372) _ ⟨hHeld, (bq_ BK362), (bq_ BK363), (bq_ BK364), (bq_ BK372), GW372.out, GE372.out, NB362_372.out, NB372_362.out, NB363_372.out, NB372_363.out, NB364_372.out, NB372_364.out, (bh_ HB)⟩)
      ·skip
       refine box_step ?hg (N := 6) ?hd (cs := #[.int .i64 0, .int .i64 0, .int .u8 0]) (t := 33) ?hr ?_; (case hd => rfl); (case hg => rfl); (case hr => first | (go_simp; done) | (go_simp; rfl))
       intro gb372 hg w30 hbox hb
       have BK372 := Aside0.mk hbox
       have GW372 := bg_ HB hg
       have GE372 := bg_ HB hg
       have NB362_372 := bn_ BK362 hg
       have NB372_362 := bm_ BK362 hg
       have NB363_372 := bn_ BK363 hg
       have NB372_363 := bm_ BK363 hg
       have NB364_372 := bn_ BK364 hg
       have NB372_364 := bm_ BK364 hg
       replace BK362 := bb_ BK362 hb
       replace BK363 := bb_ BK363 hb
       replace BK364 := bb_ BK364 hb
       replace HB := bs_ HB hb
       clear hb hbox hg
       refine hK.out _ _ (a3_ (k3_ BK362) (k4_ BK363)) (fun hHeld => ?_)
       clear hK K
       refine nm_ 6 ?_
       refine one_ (i := 6) (N := some 32) #[true, true, true, true, true, true, true, false, false, false, false, true, false, false] rfl rfl (one_of HT_.out (by kernel_rfl)) (by decide) (fun K hK => ?_)
       refine gq_ Try.func52 (by kernel_rfl) rfl #[.agg #[.int .i64 a0_0, .int .i64 a0_1, .bool a0_2], .slice A1_3 l1_3.length c1_3] (by rfl) rfl rfl ?_
       with_reducible refine (salvorref16_begin.calls kj20 a0_0 a0_1 a0_2 _ _ l1_3 t367 _ ?side1 ?side2 A26.out).mono ?_
       (case side1 => exact cb_ HR1_3 HB)
       (case side2 => exact HC1_3.out)
       rintro e w31 ⟨rfl, hb⟩
       refine ⟨_, rfl, ?_⟩
       replace BK362 := bb_ BK362 hb
       replace BK363 := bb_ BK363 hb
       replace BK364 := bb_ BK364 hb
       replace BK372 := bb_ BK372 hb
       replace HB := bs_ HB hb
       (try clear hb)
       refine hK.out _ _ (a3_ (k3_ BK362) (k4_ BK363)) (fun hHeld => ?_)
       clear hK K
       refine nm_ 32 ?_
       refine one_ (i := 7) (N := some 33) #[true, true, true, true, true, true, true, true, false, false, false, true, false, false] rfl rfl (one_of HT_.out (by kernel_rfl)) (by decide) (fun K hK => ?_)
       refine gq_ Try.func62 (by kernel_rfl) rfl #[.agg #[.int .i64 a0_0, .int .i64 a0_1, .bool a0_2], .slice A1_3 l1_3.length c1_3, .int .u8 63, .int .i64 t367] (by rfl) rfl rfl ?_
       with_reducible refine (salvorref16_side.calls kj20 a0_0 a0_1 a0_2 _ _ l1_3 63 t367 t368 t369 t370 t371 _ ?side1 ?side2 A27.out).mono ?_
       (case side1 => exact cb_ HR1_3 HB)
       (case side2 => exact HC1_3.out)
       rintro e w32 ⟨rfl, hb⟩
       refine ⟨_, rfl, ?_⟩
       replace BK362 := bb_ BK362 hb
       replace BK363 := bb_ BK363 hb
       replace BK364 := bb_ BK364 hb
       replace BK372 := bb_ BK372 hb
       replace HB := bs_ HB hb
       (try clear hb)
       refine hK.out _ _ (a3_ (k3_ BK362) (k4_ BK363)) (fun hHeld => ?_)
       clear hK K
       refine nm_ 33 ?_
       refine pu_ 8 25 (lb_ 14 2559) rfl rfl (ao_ HT_) ?_
       refine pu_ 9 34 (lb_ 14 3071) rfl rfl (ao_ HT_) ?_
       refine pu_ 10 35 (lb_ 14 4095) rfl rfl (ao_ HT_) ?_
       exact norm_ (by simp only [putAll, Act.put, List.setIfInBounds_toArray, List.set_cons_zero, List.set_cons_succ]) (hCont (gb372) _ ⟨hHeld, (bq_ BK362), (bq_ BK363), (bq_ BK364), (bq_ BK372), GW372.out, GE372.out, NB362_372.out, NB372_362.out, NB363_372.out, NB372_363.out, NB364_372.out, NB372_364.out, (bh_ HB)⟩)
     rintro gb372 w33 ⟨hS_, h0_, h1_, h2_, h3_, h4_, h5_, h6_, h7_, h8_, h9_, h10_, h11_, h12_⟩
     have n0_ : Aside0 (w33.heap[gb362]? = some (.cells #[.int .i64 a0_0, .int .i64 a0_1, .bool a0_2] 23 (0, 0))) := ⟨h0_⟩
     have n1_ : Aside0 (w33.heap[gb363]? = some (.cells #[.int .i64 a1_0, .int .i64 a1_1, .int .u8 a1_2, .slice A1_3 l1_3.length c1_3] 26 (0, 0))) := ⟨h1_⟩
     have n2_ : Aside0 (w33.heap[gb364]? = some (.cells #[.int .i64 x365000_20, .int .i64 x365001_20, .int .i64 x365002_20] 29 (0, 0))) := ⟨h2_⟩
     have n3_ : Aside0 (w33.heap[gb372]? = some (.cells #[.int .i64 0, .int .i64 0, .int .u8 0] 33 (0, 0))) := ⟨h3_⟩
     have n4_ : Aside0 (w.heap.size ≤ gb372) := ⟨h4_⟩
     have n5_ : Aside0 (w.heap.size ≤ gb372) := ⟨h5_⟩
     have n6_ : Aside0 (gb362 ≠ gb372) := ⟨h6_⟩
     have n7_ : Aside0 (gb372 ≠ gb362) := ⟨h7_⟩
     have n8_ : Aside0 (gb363 ≠ gb372) := ⟨h8_⟩
     have n9_ : Aside0 (gb372 ≠ gb363) := ⟨h9_⟩
     have n10_ : Aside0 (gb364 ≠ gb372) := ⟨h10_⟩
     have n11_ : Aside0 (gb372 ≠ gb364) := ⟨h11_⟩
     have n12_ : Aside0 (Below w.heap.size w w33) := ⟨h12_⟩
     clear BK362
     clear BK363
     clear BK364
     clear HB
     clear h0_ h1_ h2_ h3_ h4_ h5_ h6_ h7_ h8_ h9_ h10_ h11_ h12_
     have BK362 := n0_
     have BK363 := n1_
     have BK364 := n2_
     have BK372 := n3_
     have GW372 := n4_
     have GE372 := n5_
     have NB362_372 := n6_
     have NB372_362 := n7_
     have NB363_372 := n8_
     have NB372_363 := n9_
     have NB364_372 := n10_
     have NB372_364 := n11_
     have HB := n12_
     clear n0_ n1_ n2_ n3_ n4_ n5_ n6_ n7_ n8_ n9_ n10_ n11_ n12_
     have hHeld : w33.cell? ⟨gb362, 0, none⟩ = some (.int .i64 a0_0) ∧ w33.cell? ⟨gb362, 1, none⟩ = some (.int .i64 a0_1) ∧ w33.cell? ⟨gb362, 2, none⟩ = some (.bool a0_2) ∧ w33.cell? ⟨gb363, 0, none⟩ = some (.int .i64 a1_0) ∧ w33.cell? ⟨gb363, 1, none⟩ = some (.int .i64 a1_1) ∧ w33.cell? ⟨gb363, 2, none⟩ = some (.int .u8 a1_2) ∧ w33.cell? ⟨gb363, 3, none⟩ = some (.slice A1_3 l1_3.length c1_3) := hS_
     refine norm_ (a' := ?_) ?_ ?_
     rotate_left
     ·simp only [putAll, Act.put, List.setIfInBounds_toArray, List.set_cons_zero, List.set_cons_succ]
      rfl
     refine one_ (i := 12) (N := none) #[true, true, true, true, true, true, true, true, true, true, true, true, true, false] rfl rfl (one_of HT_.out (by kernel_rfl)) (by decide) (fun K hK => ?_)
     have hs34 : w33.cell? ⟨gb372, 0, none⟩ = some (.int .i64 0) := (blk_cell BK372.out 0).trans rfl
     have hfs34 := blk_frozen BK372.out 0
     have hns34_0 := NB362_372.out
     have hns34_1 := NB363_372.out
     have hns34_2 := NB364_372.out
     have hms34_0 := NB372_362.out
     have hms34_1 := NB372_363.out
     have hms34_2 := NB372_364.out
     have hs35 : w33.cell? ⟨gb372, 1, none⟩ = some (.int .i64 0) := (blk_cell BK372.out 1).trans rfl
     have hfs35 := blk_frozen BK372.out 1
     have hns35_0 := NB362_372.out
     have hns35_1 := NB363_372.out
     have hns35_2 := NB364_372.out
     have hms35_0 := NB372_362.out
     have hms35_1 := NB372_363.out
     have hms35_2 := NB372_364.out
     have hs36 : w33.cell? ⟨gb372, 2, none⟩ = some (.int .u8 0) := (blk_cell BK372.out 2).trans rfl
     have hfs36 := blk_frozen BK372.out 2
     have hns36_0 := NB362_372.out
     have hns36_1 := NB363_372.out
     have hns36_2 := NB364_372.out
     have hms36_0 := NB372_362.out
     have hms36_1 := NB372_363.out
     have hms36_2 := NB372_364.out
     refine skip_ (w1 := ?_) (by rfl) rfl ?_ ?_
     rotate_left
     ·go_simp
      rfl
     refine hK.out _ _ ⟨(cf_ NB362_372 ((cf_ NB362_372 ((cf_ NB362_372 (hHeld.1)))))), (cf_ NB362_372 ((cf_ NB362_372 ((cf_ NB362_372 (hHeld.2.1)))))), (cf_ NB362_372 ((cf_ NB362_372 ((cf_ NB362_372 (hHeld.2.2.1)))))), (cf_ NB363_372 ((cf_ NB363_372 ((cf_ NB363_372 (hHeld.2.2.2.1)))))), (cf_ NB363_372 ((cf_ NB363_372 ((cf_ NB363_372 (hHeld.2.2.2.2.1)))))), (cf_ NB363_372 ((cf_ NB363_372 ((cf_ NB363_372 (hHeld.2.2.2.2.2.1)))))), (cf_ NB363_372 ((cf_ NB363_372 ((cf_ NB363_372 (hHeld.2.2.2.2.2.2))))))⟩ (fun hHeld => ?_)
     clear hK K
     refine pu_ 13 7 (lb_ 14 16383) rfl rfl (ao_ HT_) ?_
     refine done_ (done_of HT_.out (by kernel_rfl)) ?_
     go_upto_if 36 with (fail)
     go_cut [] (fun wc => ∃ (kq : Nat) (x365000_27 : Int) (x365001_27 : Int) (x365002_27 : Int), Aside0 (salvorref16_next.j2 kq a0_0 a0_1 a0_2 a1_0 a1_1 a1_2 l1_3 = some (r1, r2, r3, r4)) ∧ Aside0 (kq ≤ kj20) ∧ Aside0 (wc.heap[gb362]? = some (.cells #[.int .i64 a0_0, .int .i64 a0_1, .bool a0_2] 23 (0, 0))) ∧ Aside0 (wc.heap[gb363]? = some (.cells #[.int .i64 a1_0, .int .i64 a1_1, .int .u8 a1_2, (.slice A1_3 l1_3.length c1_3)] 26 (0, 0))) ∧ Aside0 (wc.heap[gb364]? = some (.cells #[.int .i64 x365000_27, .int .i64 x365001_27, .int .i64 x365002_27] 29 (0, 0))) ∧ Aside0 (wc.heap[gb372]? = some (.cells #[.int .i64 t368, .int .i64 t369, .int .u8 t370] 33 (0, 0))) ∧ Aside0 (Below w.heap.size w wc))
     case first =>
      have H := HC28.out
      clear HC28
      by_cases c37 : t371 = true
      ·subst c37
       have H1 : ((salvorref16_part.f a0_0 a0_1 a0_2 t368 t369 t370 a0_0 1).bind fun bt373 => (some (bt373.1, bt373.2.1, bt373.2.2, false))) = some (r1, r2, r3, r4) := by rw [if_pos rfl] at H; exact H
       clear H
       have H := H1
       clear H1
       replace H := Option.bind_eq_some_iff.mp H
       obtain ⟨⟨t373, t374, t375⟩, A380, H⟩ := H
       replace H : (some (t373, t374, t375, false)) = some (r1, r2, r3, r4) := H
       have A38 := Aside0.mk A380
       clear A380
       simp only [Option.some.injEq, Prod.mk.injEq] at H
       obtain ⟨rfl, rfl, rfl, rfl⟩ := H
       have hnb39 := NB362_363.out
       have hnc39 := NB363_362.out
       have hnb40 := NB362_364.out
       have hnc40 := NB364_362.out
       have hnb41 := NB362_372.out
       have hnc41 := NB372_362.out
       obtain ⟨hcz42_0, hcz42_1, hcz42_2, hfz42_0, hfz42_1, hfz42_2⟩ := c3_ BK362
       have hnb43 := NB372_363.out
       have hnc43 := NB363_372.out
       have hnb44 := NB372_364.out
       have hnc44 := NB364_372.out
       obtain ⟨hcz45_0, hcz45_1, hcz45_2, hfz45_0, hfz45_1, hfz45_2⟩ := c3_ BK372
       go_wp2_with (first | ((with_reducible refine gate_callee (f := 63) rfl ?_); refine gl_ (some 41) rfl rfl Try.func63 (by kernel_rfl) rfl #[.agg #[.int .i64 a0_0, .int .i64 a0_1, .bool a0_2], .agg #[.int .i64 t368, .int .i64 t369, .int .u8 t370], .int .i64 a0_0, .int .i64 1] rfl ?_; (with_reducible refine (salvorref16_part.calls a0_0 a0_1 a0_2 t368 t369 t370 a0_0 1 t373 t374 t375 _ A38.out).mono ?_); rintro e w46 ⟨rfl, hb⟩; refine ⟨_, rfl, ?_⟩; replace BK362 := Aside0.mk (blk_below (g := gb362) (o := .cells #[.int .i64 a0_0, .int .i64 a0_1, .bool a0_2] 23 (0, 0)) (bp_ BK362) hb); replace BK363 := Aside0.mk (blk_below (g := gb363) (o := .cells #[.int .i64 a1_0, .int .i64 a1_1, .int .u8 a1_2, .slice A1_3 l1_3.length c1_3] 26 (0, 0)) (bp_ BK363) hb); replace BK364 := Aside0.mk (blk_below (g := gb364) (o := .cells #[.int .i64 x365000_20, .int .i64 x365001_20, .int .i64 x365002_20] 29 (0, 0)) (bp_ BK364) hb); replace BK372 := Aside0.mk (blk_below (g := gb372) (o := .cells #[.int .i64 t368, .int .i64 t369, .int .u8 t370] 33 (0, 0)) (bp_ BK372) hb); replace HB := bs_ HB hb; (try clear hb); have hnb47 := NB364_363.out; have hnc47 := NB363_364.out; obtain ⟨hcz48_0, hcz48_1, hcz48_2, hfz48_0, hfz48_1, hfz48_2⟩ := c3_ BK364))
       refine bodyPost_ret (results_ct rfl _ _ gb364 29 #[.int .i64 t373, .int .i64 t374, .int .i64 t375] (0, 0) _ rfl (bp_ BK364) Try.underlying29 rfl (by kernel_rfl)) rfl ?_
       exact ⟨by first | rfl | (simp [errW_none, errW_some] <;> rfl) | (simp [*, errW_none, errW_some] <;> rfl), bh_ HB⟩
      ·replace c37 := Bool.eq_false_iff.mpr c37
       subst c37
       have H1 : (salvorref16_next.j2 kj20 a0_0 a0_1 a0_2 a1_0 a1_1 a1_2 l1_3) = some (r1, r2, r3, r4) := by rw [if_neg (show ¬ (false = true) by decide)] at H; exact H
       clear H
       have H := H1
       clear H1
       have H' := Aside0.mk H
       clear H
       go_wp2
       go_meet
       case rel => exact ⟨_, (x365000_20), (x365001_20), (x365002_20), H', ⟨by have := HJ2.out; have := HJ20.out; first | omega | exact Nat.le_refl _⟩, ⟨by (with_reducible repeat (first | refine blk_drewN ?_ _ | refine blk_drew ?_ | refine blk_alloc ?_ _)); refine blk_far ?_ NB362_372.out _; (with_reducible repeat (first | refine blk_drewN ?_ _ | refine blk_drew ?_ | refine blk_alloc ?_ _)); refine blk_far ?_ NB362_372.out _; (with_reducible repeat (first | refine blk_drewN ?_ _ | refine blk_drew ?_ | refine blk_alloc ?_ _)); refine blk_far ?_ NB362_372.out _; (with_reducible repeat (first | refine blk_drewN ?_ _ | refine blk_drew ?_ | refine blk_alloc ?_ _)); exact BK362.out⟩, ⟨by (with_reducible repeat (first | refine blk_drewN ?_ _ | refine blk_drew ?_ | refine blk_alloc ?_ _)); refine blk_far ?_ NB363_372.out _; (with_reducible repeat (first | refine blk_drewN ?_ _ | refine blk_drew ?_ | refine blk_alloc ?_ _)); refine blk_far ?_ NB363_372.out _; (with_reducible repeat (first | refine blk_drewN ?_ _ | refine blk_drew ?_ | refine blk_alloc ?_ _)); refine blk_far ?_ NB363_372.out _; (with_reducible repeat (first | refine blk_drewN ?_ _ | refine blk_drew ?_ | refine blk_alloc ?_ _)); exact BK363.out⟩, ⟨by (with_reducible repeat (first | refine blk_drewN ?_ _ | refine blk_drew ?_ | refine blk_alloc ?_ _)); refine blk_far ?_ NB364_372.out _; (with_reducible repeat (first | refine blk_drewN ?_ _ | refine blk_drew ?_ | refine blk_alloc ?_ _)); refine blk_far ?_ NB364_372.out _; (with_reducible repeat (first | refine blk_drewN ?_ _ | refine blk_drew ?_ | refine blk_alloc ?_ _)); refine blk_far ?_ NB364_372.out _; (with_reducible repeat (first | refine blk_drewN ?_ _ | refine blk_drew ?_ | refine blk_alloc ?_ _)); exact BK364.out⟩, ⟨by (with_reducible repeat (first | refine blk_drewN ?_ _ | refine blk_drew ?_ | refine blk_alloc ?_ _)); refine blk_put (cs := #[.int .i64 t368, .int .i64 t369, .int .u8 0]) ?_ 2 _ rfl; (with_reducible repeat (first | refine blk_drewN ?_ _ | refine blk_drew ?_ | refine blk_alloc ?_ _)); refine blk_put (cs := #[.int .i64 t368, .int .i64 0, .int .u8 0]) ?_ 1 _ rfl; (with_reducible repeat (first | refine blk_drewN ?_ _ | refine blk_drew ?_ | refine blk_alloc ?_ _)); refine blk_put (cs := #[.int .i64 0, .int .i64 0, .int .u8 0]) ?_ 0 _ rfl; (with_reducible repeat (first | refine blk_drewN ?_ _ | refine blk_drew ?_ | refine blk_alloc ?_ _)); exact BK372.out⟩, ⟨bh_ HB⟩⟩
     case rest =>
      clear HC28
      try clear c1
      try clear p2
      try clear c3
      try clear c4
      try clear c5
      try clear c6
      try clear c37
      try clear c39
      try clear c40
      try clear c41
      try clear c43
      try clear c44
      try clear c47
      try clear hcz42_0 hcz42_1 hcz42_2
      try clear hcz45_0 hcz45_1 hcz45_2
      try clear hcz48_0 hcz48_1 hcz48_2
      try clear hfz12_1 hfz12_2
      try clear hfz15_0 hfz15_1 hfz15_2 hfz15_3
      try clear hfz19_0 hfz19_1 hfz19_2
      try clear hfz25_0 hfz25_1 hfz25_2
      try clear hfz42_0 hfz42_1 hfz42_2
      try clear hfz45_0 hfz45_1 hfz45_2
      try clear hfz48_0 hfz48_1 hfz48_2
      try clear p2
      obtain ⟨kq, x365000_27, x365001_27, x365002_27, HA, HJ27, BK362, BK363, BK364, BK372, HB⟩ := hcut
      cases kq with
      | zero => exact absurd HA.out (by simp [salvorref16_next.j2])
      | succ kj27 =>
       have H := HA.out
       clear HA
       simp only [salvorref16_next.j2] at H
       replace H := Option.bind_eq_some_iff.mp H
       obtain ⟨t376, A490, H⟩ := H
       replace H : ((salvorref16_side.f kj27 a0_0 a0_1 a0_2 l1_3 42 t376).bind fun bt377 => (if bt377.2.2.2 = true then ((salvorref16_part.f a0_0 a0_1 a0_2 bt377.1 bt377.2.1 bt377.2.2.1 1 2).bind fun bt382 => (some (bt382.1, bt382.2.1, bt382.2.2, false))) else (salvorref16_next.j3 kj27 a0_0 a0_1 a0_2 a1_0 a1_1 a1_2 l1_3))) = some (r1, r2, r3, r4) := H
       have A49 := Aside0.mk A490
       clear A490
       replace H := Option.bind_eq_some_iff.mp H
       obtain ⟨⟨t377, t378, t379, t380⟩, A500, H⟩ := H
       replace H : (if t380 = true then ((salvorref16_part.f a0_0 a0_1 a0_2 t377 t378 t379 1 2).bind fun bt382 => (some (bt382.1, bt382.2.1, bt382.2.2, false))) else (salvorref16_next.j3 kj27 a0_0 a0_1 a0_2 a1_0 a1_1 a1_2 l1_3)) = some (r1, r2, r3, r4) := H
       have A50 := Aside0.mk A500
       clear A500
       have HC51 := Aside0.mk H
       clear H
       try go_wp2
       replace BK362 := Aside0.mk (blk_drew BK362.out)
       replace BK363 := Aside0.mk (blk_drew BK363.out)
       replace BK364 := Aside0.mk (blk_drew BK364.out)
       replace BK372 := Aside0.mk (blk_drew BK372.out)
       replace HB := Aside0.mk (below_drew1 HB.out)
       refine start_ (n := 14) (S := fun w' => w'.cell? ⟨gb362, 0, none⟩ = some (.int .i64 a0_0) ∧ w'.cell? ⟨gb362, 1, none⟩ = some (.int .i64 a0_1) ∧ w'.cell? ⟨gb362, 2, none⟩ = some (.bool a0_2) ∧ w'.cell? ⟨gb363, 0, none⟩ = some (.int .i64 a1_0) ∧ w'.cell? ⟨gb363, 1, none⟩ = some (.int .i64 a1_1) ∧ w'.cell? ⟨gb363, 2, none⟩ = some (.int .u8 a1_2) ∧ w'.cell? ⟨gb363, 3, none⟩ = some (.slice A1_3 l1_3.length c1_3)) (ds := []) #[false, false, false, false, false, false, false, false, false, false, false, false, false, false] (by kernel_rfl) rfl rfl (a3_ (k3_ BK362) (k4_ BK363)) (fun hHeld => ?_); refine with_tabW salvorref16_next.tab6 salvorref16_next.bits6 (fun HT_ HW_ => ?_)
       generalize wc.drew = w52 at BK362 BK363 BK364 BK372 HB hHeld ⊢
       refine pu_ 1 44 (lb_ 14 2) rfl rfl (ao_ HT_) ?_
       refine pu_ 4 47 (lb_ 14 18) rfl rfl (ao_ HT_) ?_
       refine tk_ 0 43 (lb_ 14 19) rfl rfl (take_ofW HT_.out HW_.out (by kernel_rfl)) hHeld ?_
       refine tk_ 2 45 (lb_ 14 23) rfl rfl (take_ofW HT_.out HW_.out (by kernel_rfl)) hHeld ?_
       refine tk_ 3 46 (lb_ 14 31) rfl rfl (take_ofW HT_.out HW_.out (by kernel_rfl)) hHeld ?_
       refine tk_ 5 48 (lb_ 14 63) rfl rfl (take_ofW HT_.out HW_.out (by kernel_rfl)) hHeld ?_
       refine join_ (σ := Nat) 2 #[true, true, true, true, true, true, true, true, true, true, true, true, false, false] (fun s_ => [(49, .int .i64 t376), (50, .tuple #[.agg #[.int .i64 t377, .int .i64 t378, .int .u8 t379], .bool t380]), (8, .pointer (some ⟨s_, 0, none⟩)), (42, .tuple #[.agg #[.int .i64 t377, .int .i64 t378, .int .u8 t379], .bool t380]), (51, .agg #[.int .i64 t377, .int .i64 t378, .int .u8 t379]), (52, .bool t380)]) (fun s_ w' => (w'.cell? ⟨gb362, 0, none⟩ = some (.int .i64 a0_0) ∧ w'.cell? ⟨gb362, 1, none⟩ = some (.int .i64 a0_1) ∧ w'.cell? ⟨gb362, 2, none⟩ = some (.bool a0_2) ∧ w'.cell? ⟨gb363, 0, none⟩ = some (.int .i64 a1_0) ∧ w'.cell? ⟨gb363, 1, none⟩ = some (.int .i64 a1_1) ∧ w'.cell? ⟨gb363, 2, none⟩ = some (.int .u8 a1_2) ∧ w'.cell? ⟨gb363, 3, none⟩ = some (.slice A1_3 l1_3.length c1_3)) ∧ (w'.heap[gb362]? = some (.cells #[.int .i64 a0_0, .int .i64 a0_1, .bool a0_2] 23 (0, 0))) ∧ (w'.heap[gb363]? = some (.cells #[.int .i64 a1_0, .int .i64 a1_1, .int .u8 a1_2, .slice A1_3 l1_3.length c1_3] 26 (0, 0))) ∧ (w'.heap[gb364]? = some (.cells #[.int .i64 x365000_27, .int .i64 x365001_27, .int .i64 x365002_27] 29 (0, 0))) ∧ (w'.heap[gb372]? = some (.cells #[.int .i64 t368, .int .i64 t369, .int .u8 t370] 33 (0, 0))) ∧ (w'.heap[s_]? = some (.cells #[.int .i64 0, .int .i64 0, .int .u8 0] 33 (0, 0))) ∧ (w.heap.size ≤ s_) ∧ (w.heap.size ≤ s_) ∧ (gb362 ≠ s_) ∧ (s_ ≠ gb362) ∧ (gb363 ≠ s_) ∧ (s_ ≠ gb363) ∧ (gb364 ≠ s_) ∧ (s_ ≠ gb364) ∧ (gb372 ≠ s_) ∧ (s_ ≠ gb372) ∧ (Below w.heap.size w w')) ?_ ?_
       rotate_left
       ·intro hCont
        refine two_ (i := 6) (j := 11) (Ni := some 49) (Nj := some 8) #[true, true, true, true, true, true, true, false, false, false, false, false, false, false] #[true, true, true, true, true, true, false, false, false, false, false, true, false, false] rfl rfl rfl rfl (two_of HT_.out (by kernel_rfl)) (by decide) (by decide) (fun K hK => ?_) (fun K hK => ?_)
        ·skip
         refine gq_ Try.func52 (by kernel_rfl) rfl #[.agg #[.int .i64 a0_0, .int .i64 a0_1, .bool a0_2], .slice A1_3 l1_3.length c1_3] (by rfl) rfl rfl ?_
         with_reducible refine (salvorref16_begin.calls kj27 a0_0 a0_1 a0_2 _ _ l1_3 t376 _ ?side1 ?side2 A49.out).mono ?_
         (case side1 => exact cb_ HR1_3 HB)
         (case side2 => exact HC1_3.out)
         rintro e w53 ⟨rfl, hb⟩
         refine ⟨_, rfl, ?_⟩
         replace BK362 := bb_ BK362 hb
         replace BK363 := bb_ BK363 hb
         replace BK364 := bb_ BK364 hb
         replace BK372 := bb_ BK372 hb
         replace HB := bs_ HB hb
         (try clear hb)
         refine hK.out _ _ (a3_ (k3_ BK362) (k4_ BK363)) (fun hHeld => ?_)
         clear hK K
         refine nm_ 49 ?_
         refine two_ (i := 7) (j := 11) (Ni := some 50) (Nj := some 8) #[true, true, true, true, true, true, true, true, false, false, false, false, false, false] #[true, true, true, true, true, true, true, false, false, false, false, true, false, false] rfl rfl rfl rfl (two_of HT_.out (by kernel_rfl)) (by decide) (by decide) (fun K hK => ?_) (fun K hK => ?_)
         ·skip
          refine gq_ Try.func62 (by kernel_rfl) rfl #[.agg #[.int .i64 a0_0, .int .i64 a0_1, .bool a0_2], .slice A1_3 l1_3.length c1_3, .int .u8 42, .int .i64 t376] (by rfl) rfl rfl ?_
          with_reducible refine (salvorref16_side.calls kj27 a0_0 a0_1 a0_2 _ _ l1_3 42 t376 t377 t378 t379 t380 _ ?side1 ?side2 A50.out).mono ?_
          (case side1 => exact cb_ HR1_3 HB)
          (case side2 => exact HC1_3.out)
          rintro e w54 ⟨rfl, hb⟩
          refine ⟨_, rfl, ?_⟩
          replace BK362 := bb_ BK362 hb
          replace BK363 := bb_ BK363 hb
          replace BK364 := bb_ BK364 hb
          replace BK372 := bb_ BK372 hb
          replace HB := bs_ HB hb
          (try clear hb)
          refine hK.out _ _ (a3_ (k3_ BK362) (k4_ BK363)) (fun hHeld => ?_)
          clear hK K
          refine nm_ 50 ?_
          refine pu_ 8 42 (lb_ 14 511) rfl rfl (ao_ HT_) ?_
          refine pu_ 9 51 (lb_ 14 1023) rfl rfl (ao_ HT_) ?_
          refine pu_ 10 52 (lb_ 14 2047) rfl rfl (ao_ HT_) ?_
          refine one_ (i := 11) (N := some 8) #[true, true, true, true, true, true, true, true, true, true, true, true, false, false] rfl rfl (one_of HT_.out (by kernel_rfl)) (by decide) (fun K hK => ?_)
          refine box_step ?hg (N := 8) ?hd (cs := #[.int .i64 0, .int .i64 0, .int .u8 0]) (t := 33) ?hr ?_; (case hd => rfl); (case hg => rfl); (case hr => first | (go_simp; done) | (go_simp; rfl))
          intro gb381 hg w55 hbox hb
          have BK381 := Aside0.mk hbox
          have GW381 := bg_ HB hg
          have GE381 := bg_ HB hg
          have NB362_381 := bn_ BK362 hg
          have NB381_362 := bm_ BK362 hg
          have NB363_381 := bn_ BK363 hg
          have NB381_363 := bm_ BK363 hg
          have NB364_381 := bn_ BK364 hg
          have NB381_364 := bm_ BK364 hg
          have NB372_381 := bn_ BK372 hg
          have NB381_372 := bm_ BK372 hg
          replace BK362 := bb_ BK362 hb
          replace BK363 := bb_ BK363 hb
          replace BK364 := bb_ BK364 hb
          replace BK372 := bb_ BK372 hb
          replace HB := bs_ HB hb
          clear hb hbox hg
          refine hK.out _ _ (a3_ (k3_ BK362) (k4_ BK363)) (fun hHeld => ?_)
          clear hK K
          refine nm_ 8 ?_
          exact norm_ (by simp only [putAll, Act.put, List.setIfInBounds_toArray, List.set_cons_zero, List.set_cons_succ]) (hCont (gb381) _ ⟨hHeld, (bq_ BK362), (bq_ BK363), (bq_ BK364), (bq_ BK372), (bq_ BK381), GW381.out, GE381.out, NB362_381.out, NB381_362.out, NB363_381.out, NB381_363.out, NB364_381.out, NB381_364.out, NB372_381.out, NB381_372.out, (bh_ HB)⟩)
         ·skip
          refine box_step ?hg (N := 8) ?hd (cs := #[.int .i64 0, .int .i64 0, .int .u8 0]) (t := 33) ?hr ?_; (case hd => rfl); (case hg => rfl); (case hr => first | (go_simp; done) | (go_simp; rfl))
          intro gb381 hg w54 hbox hb
          have BK381 := Aside0.mk hbox
          have GW381 := bg_ HB hg
          have GE381 := bg_ HB hg
          have NB362_381 := bn_ BK362 hg
          have NB381_362 := bm_ BK362 hg
          have NB363_381 := bn_ BK363 hg
          have NB381_363 := bm_ BK363 hg
          have NB364_381 := bn_ BK364 hg
          have NB381_364 := bm_ BK364 hg
          have NB372_381 := bn_ BK372 hg
          have NB381_372 := bm_ BK372 hg
          replace BK362 := bb_ BK362 hb
          replace BK363 := bb_ BK363 hb
          replace BK364 := bb_ BK364 hb
          replace BK372 := bb_ BK372 hb
          replace HB := bs_ HB hb
          clear hb hbox hg
          refine hK.out _ _ (a3_ (k3_ BK362) (k4_ BK363)) (fun hHeld => ?_)
          clear hK K
          refine nm_ 8 ?_
          refine one_ (i := 7) (N := some 50) #[true, true, true, true, true, true, true, true, false, false, false, true, false, false] rfl rfl (one_of HT_.out (by kernel_rfl)) (by decide) (fun K hK => ?_)
          refine gq_ Try.func62 (by kernel_rfl) rfl #[.agg #[.int .i64 a0_0, .int .i64 a0_1, .bool a0_2], .slice A1_3 l1_3.length c1_3, .int .u8 42, .int .i64 t376] (by rfl) rfl rfl ?_
          with_reducible refine (salvorref16_side.calls kj27 a0_0 a0_1 a0_2 _ _ l1_3 42 t376 t377 t378 t379 t380 _ ?side1 ?side2 A50.out).mono ?_
          (case side1 => exact cb_ HR1_3 HB)
          (case side2 => exact HC1_3.out)
          rintro e w55 ⟨rfl, hb⟩
          refine ⟨_, rfl, ?_⟩
          replace BK362 := bb_ BK362 hb
          replace BK363 := bb_ BK363 hb
          replace BK364 := bb_ BK364 hb
          replace BK372 := bb_ BK372 hb
          replace BK381 := bb_ BK381 hb
          replace HB := bs_ HB hb
          (try clear hb)
          refine hK.out _ _ (a3_ (k3_ BK362) (k4_ BK363)) (fun hHeld => ?_)
          clear hK K
          refine nm_ 50 ?_
          refine pu_ 8 42 (lb_ 14 2559) rfl rfl (ao_ HT_) ?_
          refine pu_ 9 51 (lb_ 14 3071) rfl rfl (ao_ HT_) ?_
          refine pu_ 10 52 (lb_ 14 4095) rfl rfl (ao_ HT_) ?_
          exact norm_ (by simp only [putAll, Act.put, List.setIfInBounds_toArray, List.set_cons_zero, List.set_cons_succ]) (hCont (gb381) _ ⟨hHeld, (bq_ BK362), (bq_ BK363), (bq_ BK364), (bq_ BK372), (bq_ BK381), GW381.out, GE381.out, NB362_381.out, NB381_362.out, NB363_381.out, NB381_363.out, NB364_381.out, NB381_364.out, NB372_381.out, NB381_372.out, (bh_ HB)⟩)
        ·skip
         refine box_step ?hg (N := 8) ?hd (cs := #[.int .i64 0, .int .i64 0, .int .u8 0]) (t := 33) ?hr ?_; (case hd => rfl); (case hg => rfl); (case hr => first | (go_simp; done) | (go_simp; rfl))
         intro gb381 hg w53 hbox hb
         have BK381 := Aside0.mk hbox
         have GW381 := bg_ HB hg
         have GE381 := bg_ HB hg
         have NB362_381 := bn_ BK362 hg
         have NB381_362 := bm_ BK362 hg
         have NB363_381 := bn_ BK363 hg
         have NB381_363 := bm_ BK363 hg
         have NB364_381 := bn_ BK364 hg
         have NB381_364 := bm_ BK364 hg
         have NB372_381 := bn_ BK372 hg
         have NB381_372 := bm_ BK372 hg
         replace BK362 := bb_ BK362 hb
         replace BK363 := bb_ BK363 hb
         replace BK364 := bb_ BK364 hb
         replace BK372 := bb_ BK372 hb
         replace HB := bs_ HB hb
         clear hb hbox hg
         refine hK.out _ _ (a3_ (k3_ BK362) (k4_ BK363)) (fun hHeld => ?_)
         clear hK K
         refine nm_ 8 ?_
         refine one_ (i := 6) (N := some 49) #[true, true, true, true, true, true, true, false, false, false, false, true, false, false] rfl rfl (one_of HT_.out (by kernel_rfl)) (by decide) (fun K hK => ?_)
         refine gq_ Try.func52 (by kernel_rfl) rfl #[.agg #[.int .i64 a0_0, .int .i64 a0_1, .bool a0_2], .slice A1_3 l1_3.length c1_3] (by rfl) rfl rfl ?_
         with_reducible refine (salvorref16_begin.calls kj27 a0_0 a0_1 a0_2 _ _ l1_3 t376 _ ?side1 ?side2 A49.out).mono ?_
         (case side1 => exact cb_ HR1_3 HB)
         (case side2 => exact HC1_3.out)
         rintro e w54 ⟨rfl, hb⟩
         refine ⟨_, rfl, ?_⟩
         replace BK362 := bb_ BK362 hb
         replace BK363 := bb_ BK363 hb
         replace BK364 := bb_ BK364 hb
         replace BK372 := bb_ BK372 hb
         replace BK381 := bb_ BK381 hb
         replace HB := bs_ HB hb
         (try clear hb)
         refine hK.out _ _ (a3_ (k3_ BK362) (k4_ BK363)) (fun hHeld => ?_)
         clear hK K
         refine nm_ 49 ?_
         refine one_ (i := 7) (N := some 50) #[true, true, true, true, true, true, true, true, false, false, false, true, false, false] rfl rfl (one_of HT_.out (by kernel_rfl)) (by decide) (fun K hK => ?_)
         refine gq_ Try.func62 (by kernel_rfl) rfl #[.agg #[.int .i64 a0_0, .int .i64 a0_1, .bool a0_2], .slice A1_3 l1_3.length c1_3, .int .u8 42, .int .i64 t376] (by rfl) rfl rfl ?_
         with_reducible refine (salvorref16_side.calls kj27 a0_0 a0_1 a0_2 _ _ l1_3 42 t376 t377 t378 t379 t380 _ ?side1 ?side2 A50.out).mono ?_
         (case side1 => exact cb_ HR1_3 HB)
         (case side2 => exact HC1_3.out)
         rintro e w55 ⟨rfl, hb⟩
         refine ⟨_, rfl, ?_⟩
         replace BK362 := bb_ BK362 hb
         replace BK363 := bb_ BK363 hb
         replace BK364 := bb_ BK364 hb
         replace BK372 := bb_ BK372 hb
         replace BK381 := bb_ BK381 hb
         replace HB := bs_ HB hb
         (try clear hb)
         refine hK.out _ _ (a3_ (k3_ BK362) (k4_ BK363)) (fun hHeld => ?_)
         clear hK K
         refine nm_ 50 ?_
         refine pu_ 8 42 (lb_ 14 2559) rfl rfl (ao_ HT_) ?_
         refine pu_ 9 51 (lb_ 14 3071) rfl rfl (ao_ HT_) ?_
         refine pu_ 10 52 (lb_ 14 4095) rfl rfl (ao_ HT_) ?_
         exact norm_ (by simp only [putAll, Act.put, List.setIfInBounds_toArray, List.set_cons_zero, List.set_cons_succ]) (hCont (gb381) _ ⟨hHeld, (bq_ BK362), (bq_ BK363), (bq_ BK364), (bq_ BK372), (bq_ BK381), GW381.out, GE381.out, NB362_381.out, NB381_362.out, NB363_381.out, NB381_363.out, NB364_381.out, NB381_364.out, NB372_381.out, NB381_372.out, (bh_ HB)⟩)
       rintro gb381 w56 ⟨hS_, h0_, h1_, h2_, h3_, h4_, h5_, h6_, h7_, h8_, h9_, h10_, h11_, h12_, h13_, h14_, h15_⟩
       have n0_ : Aside0 (w56.heap[gb362]? = some (.cells #[.int .i64 a0_0, .int .i64 a0_1, .bool a0_2] 23 (0, 0))) := ⟨h0_⟩
       have n1_ : Aside0 (w56.heap[gb363]? = some (.cells #[.int .i64 a1_0, .int .i64 a1_1, .int .u8 a1_2, .slice A1_3 l1_3.length c1_3] 26 (0, 0))) := ⟨h1_⟩
       have n2_ : Aside0 (w56.heap[gb364]? = some (.cells #[.int .i64 x365000_27, .int .i64 x365001_27, .int .i64 x365002_27] 29 (0, 0))) := ⟨h2_⟩
       have n3_ : Aside0 (w56.heap[gb372]? = some (.cells #[.int .i64 t368, .int .i64 t369, .int .u8 t370] 33 (0, 0))) := ⟨h3_⟩
       have n4_ : Aside0 (w56.heap[gb381]? = some (.cells #[.int .i64 0, .int .i64 0, .int .u8 0] 33 (0, 0))) := ⟨h4_⟩
       have n5_ : Aside0 (w.heap.size ≤ gb381) := ⟨h5_⟩
       have n6_ : Aside0 (w.heap.size ≤ gb381) := ⟨h6_⟩
       have n7_ : Aside0 (gb362 ≠ gb381) := ⟨h7_⟩
       have n8_ : Aside0 (gb381 ≠ gb362) := ⟨h8_⟩
       have n9_ : Aside0 (gb363 ≠ gb381) := ⟨h9_⟩
       have n10_ : Aside0 (gb381 ≠ gb363) := ⟨h10_⟩
       have n11_ : Aside0 (gb364 ≠ gb381) := ⟨h11_⟩
       have n12_ : Aside0 (gb381 ≠ gb364) := ⟨h12_⟩
       have n13_ : Aside0 (gb372 ≠ gb381) := ⟨h13_⟩
       have n14_ : Aside0 (gb381 ≠ gb372) := ⟨h14_⟩
       have n15_ : Aside0 (Below w.heap.size w w56) := ⟨h15_⟩
       clear BK362
       clear BK363
       clear BK364
       clear BK372
       clear HB
       clear h0_ h1_ h2_ h3_ h4_ h5_ h6_ h7_ h8_ h9_ h10_ h11_ h12_ h13_ h14_ h15_
       have BK362 := n0_
       have BK363 := n1_
       have BK364 := n2_
       have BK372 := n3_
       have BK381 := n4_
       have GW381 := n5_
       have GE381 := n6_
       have NB362_381 := n7_
       have NB381_362 := n8_
       have NB363_381 := n9_
       have NB381_363 := n10_
       have NB364_381 := n11_
       have NB381_364 := n12_
       have NB372_381 := n13_
       have NB381_372 := n14_
       have HB := n15_
       clear n0_ n1_ n2_ n3_ n4_ n5_ n6_ n7_ n8_ n9_ n10_ n11_ n12_ n13_ n14_ n15_
       have hHeld : w56.cell? ⟨gb362, 0, none⟩ = some (.int .i64 a0_0) ∧ w56.cell? ⟨gb362, 1, none⟩ = some (.int .i64 a0_1) ∧ w56.cell? ⟨gb362, 2, none⟩ = some (.bool a0_2) ∧ w56.cell? ⟨gb363, 0, none⟩ = some (.int .i64 a1_0) ∧ w56.cell? ⟨gb363, 1, none⟩ = some (.int .i64 a1_1) ∧ w56.cell? ⟨gb363, 2, none⟩ = some (.int .u8 a1_2) ∧ w56.cell? ⟨gb363, 3, none⟩ = some (.slice A1_3 l1_3.length c1_3) := hS_
       refine norm_ (a' := ?_) ?_ ?_
       rotate_left
       ·simp only [putAll, Act.put, List.setIfInBounds_toArray, List.set_cons_zero, List.set_cons_succ]
        rfl
       refine one_ (i := 12) (N := none) #[true, true, true, true, true, true, true, true, true, true, true, true, true, false] rfl rfl (one_of HT_.out (by kernel_rfl)) (by decide) (fun K hK => ?_)
       have hs57 : w56.cell? ⟨gb381, 0, none⟩ = some (.int .i64 0) := (blk_cell BK381.out 0).trans rfl
       have hfs57 := blk_frozen BK381.out 0
       have hns57_0 := NB362_381.out
       have hns57_1 := NB363_381.out
       have hns57_2 := NB364_381.out
       have hns57_3 := NB372_381.out
       have hms57_0 := NB381_362.out
       have hms57_1 := NB381_363.out
       have hms57_2 := NB381_364.out
       have hms57_3 := NB381_372.out
       have hs58 : w56.cell? ⟨gb381, 1, none⟩ = some (.int .i64 0) := (blk_cell BK381.out 1).trans rfl
       have hfs58 := blk_frozen BK381.out 1
       have hns58_0 := NB362_381.out
       have hns58_1 := NB363_381.out
       have hns58_2 := NB364_381.out
       have hns58_3 := NB372_381.out
       have hms58_0 := NB381_362.out
       have hms58_1 := NB381_363.out
       have hms58_2 := NB381_364.out
       have hms58_3 := NB381_372.out
       have hs59 : w56.cell? ⟨gb381, 2, none⟩ = some (.int .u8 0) := (blk_cell BK381.out 2).trans rfl
       have hfs59 := blk_frozen BK381.out 2
       have hns59_0 := NB362_381.out
       have hns59_1 := NB363_381.out
       have hns59_2 := NB364_381.out
       have hns59_3 := NB372_381.out
       have hms59_0 := NB381_362.out
       have hms59_1 := NB381_363.out
       have hms59_2 := NB381_364.out
       have hms59_3 := NB381_372.out
       refine skip_ (w1 := ?_) (by rfl) rfl ?_ ?_
       rotate_left
       ·go_simp
        rfl
       refine hK.out _ _ ⟨(cf_ NB362_381 ((cf_ NB362_381 ((cf_ NB362_381 (hHeld.1)))))), (cf_ NB362_381 ((cf_ NB362_381 ((cf_ NB362_381 (hHeld.2.1)))))), (cf_ NB362_381 ((cf_ NB362_381 ((cf_ NB362_381 (hHeld.2.2.1)))))), (cf_ NB363_381 ((cf_ NB363_381 ((cf_ NB363_381 (hHeld.2.2.2.1)))))), (cf_ NB363_381 ((cf_ NB363_381 ((cf_ NB363_381 (hHeld.2.2.2.2.1)))))), (cf_ NB363_381 ((cf_ NB363_381 ((cf_ NB363_381 (hHeld.2.2.2.2.2.1)))))), (cf_ NB363_381 ((cf_ NB363_381 ((cf_ NB363_381 (hHeld.2.2.2.2.2.2))))))⟩ (fun hHeld => ?_)
       clear hK K
       refine pu_ 13 9 (lb_ 14 16383) rfl rfl (ao_ HT_) ?_
       refine done_ (done_of HT_.out (by kernel_rfl)) ?_
       go_upto_if 53 with (fail)
       go_cut [] (fun wc => ∃ (kq : Nat) (x365000_50 : Int) (x365001_50 : Int) (x365002_50 : Int), Aside0 (salvorref16_next.j3 kq a0_0 a0_1 a0_2 a1_0 a1_1 a1_2 l1_3 = some (r1, r2, r3, r4)) ∧ Aside0 (kq ≤ kj27) ∧ Aside0 (wc.heap[gb362]? = some (.cells #[.int .i64 a0_0, .int .i64 a0_1, .bool a0_2] 23 (0, 0))) ∧ Aside0 (wc.heap[gb363]? = some (.cells #[.int .i64 a1_0, .int .i64 a1_1, .int .u8 a1_2, (.slice A1_3 l1_3.length c1_3)] 26 (0, 0))) ∧ Aside0 (wc.heap[gb364]? = some (.cells #[.int .i64 x365000_50, .int .i64 x365001_50, .int .i64 x365002_50] 29 (0, 0))) ∧ Aside0 (wc.heap[gb372]? = some (.cells #[.int .i64 t368, .int .i64 t369, .int .u8 t370] 33 (0, 0))) ∧ Aside0 (wc.heap[gb381]? = some (.cells #[.int .i64 t377, .int .i64 t378, .int .u8 t379] 33 (0, 0))) ∧ Aside0 (Below w.heap.size w wc))
       case first =>
        have H := HC51.out
        clear HC51
        by_cases c60 : t380 = true
        ·subst c60
         have H1 : ((salvorref16_part.f a0_0 a0_1 a0_2 t377 t378 t379 1 2).bind fun bt382 => (some (bt382.1, bt382.2.1, bt382.2.2, false))) = some (r1, r2, r3, r4) := by rw [if_pos rfl] at H; exact H
         clear H
         have H := H1
         clear H1
         replace H := Option.bind_eq_some_iff.mp H
         obtain ⟨⟨t382, t383, t384⟩, A610, H⟩ := H
         replace H : (some (t382, t383, t384, false)) = some (r1, r2, r3, r4) := H
         have A61 := Aside0.mk A610
         clear A610
         simp only [Option.some.injEq, Prod.mk.injEq] at H
         obtain ⟨rfl, rfl, rfl, rfl⟩ := H
         have hnb62 := NB362_363.out
         have hnc62 := NB363_362.out
         have hnb63 := NB362_364.out
         have hnc63 := NB364_362.out
         have hnb64 := NB362_372.out
         have hnc64 := NB372_362.out
         have hnb65 := NB362_381.out
         have hnc65 := NB381_362.out
         obtain ⟨hcz66_0, hcz66_1, hcz66_2, hfz66_0, hfz66_1, hfz66_2⟩ := c3_ BK362
         have hnb67 := NB381_363.out
         have hnc67 := NB363_381.out
         have hnb68 := NB381_364.out
         have hnc68 := NB364_381.out
         have hnb69 := NB381_372.out
         have hnc69 := NB372_381.out
         obtain ⟨hcz70_0, hcz70_1, hcz70_2, hfz70_0, hfz70_1, hfz70_2⟩ := c3_ BK381
         go_wp2_with (first | ((with_reducible refine gate_callee (f := 63) rfl ?_); refine gl_ (some 56) rfl rfl Try.func63 (by kernel_rfl) rfl #[.agg #[.int .i64 a0_0, .int .i64 a0_1, .bool a0_2], .agg #[.int .i64 t377, .int .i64 t378, .int .u8 t379], .int .i64 1, .int .i64 2] rfl ?_; (with_reducible refine (salvorref16_part.calls a0_0 a0_1 a0_2 t377 t378 t379 1 2 t382 t383 t384 _ A61.out).mono ?_); rintro e w71 ⟨rfl, hb⟩; refine ⟨_, rfl, ?_⟩; replace BK362 := Aside0.mk (blk_below (g := gb362) (o := .cells #[.int .i64 a0_0, .int .i64 a0_1, .bool a0_2] 23 (0, 0)) (bp_ BK362) hb); replace BK363 := Aside0.mk (blk_below (g := gb363) (o := .cells #[.int .i64 a1_0, .int .i64 a1_1, .int .u8 a1_2, .slice A1_3 l1_3.length c1_3] 26 (0, 0)) (bp_ BK363) hb); replace BK364 := Aside0.mk (blk_below (g := gb364) (o := .cells #[.int .i64 x365000_27, .int .i64 x365001_27, .int .i64 x365002_27] 29 (0, 0)) (bp_ BK364) hb); replace BK372 := Aside0.mk (blk_below (g := gb372) (o := .cells #[.int .i64 t368, .int .i64 t369, .int .u8 t370] 33 (0, 0)) (bp_ BK372) hb); replace BK381 := Aside0.mk (blk_below (g := gb381) (o := .cells #[.int .i64 t377, .int .i64 t378, .int .u8 t379] 33 (0, 0)) (bp_ BK381) hb); replace HB := bs_ HB hb; (try clear hb); have hnb72 := NB364_363.out; have hnc72 := NB363_364.out; have hnb73 := NB364_372.out; have hnc73 := NB372_364.out; obtain ⟨hcz74_0, hcz74_1, hcz74_2, hfz74_0, hfz74_1, hfz74_2⟩ := c3_ BK364))
         refine bodyPost_ret (results_ct rfl _ _ gb364 29 #[.int .i64 t382, .int .i64 t383, .int .i64 t384] (0, 0) _ rfl (bp_ BK364) Try.underlying29 rfl (by kernel_rfl)) rfl ?_
         exact ⟨by first | rfl | (simp [errW_none, errW_some] <;> rfl) | (simp [*, errW_none, errW_some] <;> rfl), bh_ HB⟩
        ·replace c60 := Bool.eq_false_iff.mpr c60
         subst c60
         have H1 : (salvorref16_next.j3 kj27 a0_0 a0_1 a0_2 a1_0 a1_1 a1_2 l1_3) = some (r1, r2, r3, r4) := by rw [if_neg (show ¬ (false = true) by decide)] at H; exact H
         clear H
         have H := H1
         clear H1
         have H' := Aside0.mk H
         clear H
         go_wp2
         go_meet
         case rel => exact ⟨_, (x365000_27), (x365001_27), (x365002_27), H', ⟨by have := HJ2.out; have := HJ20.out; have := HJ27.out; first | omega | exact Nat.le_refl _⟩, ⟨by (with_reducible repeat (first | refine blk_drewN ?_ _ | refine blk_drew ?_ | refine blk_alloc ?_ _)); refine blk_far ?_ NB362_381.out _; (with_reducible repeat (first | refine blk_drewN ?_ _ | refine blk_drew ?_ | refine blk_alloc ?_ _)); refine blk_far ?_ NB362_381.out _; (with_reducible repeat (first | refine blk_drewN ?_ _ | refine blk_drew ?_ | refine blk_alloc ?_ _)); refine blk_far ?_ NB362_381.out _; (with_reducible repeat (first | refine blk_drewN ?_ _ | refine blk_drew ?_ | refine blk_alloc ?_ _)); exact BK362.out⟩, ⟨by (with_reducible repeat (first | refine blk_drewN ?_ _ | refine blk_drew ?_ | refine blk_alloc ?_ _)); refine blk_far ?_ NB363_381.out _; (with_reducible repeat (first | refine blk_drewN ?_ _ | refine blk_drew ?_ | refine blk_alloc ?_ _)); refine blk_far ?_ NB363_381.out _; (with_reducible repeat (first | refine blk_drewN ?_ _ | refine blk_drew ?_ | refine blk_alloc ?_ _)); refine blk_far ?_ NB363_381.out _; (with_reducible repeat (first | refine blk_drewN ?_ _ | refine blk_drew ?_ | refine blk_alloc ?_ _)); exact BK363.out⟩, ⟨by (with_reducible repeat (first | refine blk_drewN ?_ _ | refine blk_drew ?_ | refine blk_alloc ?_ _)); refine blk_far ?_ NB364_381.out _; (with_reducible repeat (first | refine blk_drewN ?_ _ | refine blk_drew ?_ | refine blk_alloc ?_ _)); refine blk_far ?_ NB364_381.out _; (with_reducible repeat (first | refine blk_drewN ?_ _ | refine blk_drew ?_ | refine blk_alloc ?_ _)); refine blk_far ?_ NB364_381.out _; (with_reducible repeat (first | refine blk_drewN ?_ _ | refine blk_drew ?_ | refine blk_alloc ?_ _)); exact BK364.out⟩, ⟨by (with_reducible repeat (first | refine blk_drewN ?_ _ | refine blk_drew ?_ | refine blk_alloc ?_ _)); refine blk_far ?_ NB372_381.out _; (with_reducible repeat (first | refine blk_drewN ?_ _ | refine blk_drew ?_ | refine blk_alloc ?_ _)); refine blk_far ?_ NB372_381.out _; (with_reducible repeat (first | refine blk_drewN ?_ _ | refine blk_drew ?_ | refine blk_alloc ?_ _)); refine blk_far ?_ NB372_381.out _; (with_reducible repeat (first | refine blk_drewN ?_ _ | refine blk_drew ?_ | refine blk_alloc ?_ _)); exact BK372.out⟩, ⟨by (with_reducible repeat (first | refine blk_drewN ?_ _ | refine blk_drew ?_ | refine blk_alloc ?_ _)); refine blk_put (cs := #[.int .i64 t377, .int .i64 t378, .int .u8 0]) ?_ 2 _ rfl; (with_reducible repeat (first | refine blk_drewN ?_ _ | refine blk_drew ?_ | refine blk_alloc ?_ _)); refine blk_put (cs := #[.int .i64 t377, .int .i64 0, .int .u8 0]) ?_ 1 _ rfl; (with_reducible repeat (first | refine blk_drewN ?_ _ | refine blk_drew ?_ | refine blk_alloc ?_ _)); refine blk_put (cs := #[.int .i64 0, .int .i64 0, .int .u8 0]) ?_ 0 _ rfl; (with_reducible repeat (first | refine blk_drewN ?_ _ | refine blk_drew ?_ | refine blk_alloc ?_ _)); exact BK381.out⟩, ⟨bh_ HB⟩⟩
       case rest =>
        clear HC51
        try clear c1
        try clear p2
        try clear c5
        try clear c6
        try clear c7
        try clear c52
        try clear c60
        try clear c62
        try clear c63
        try clear c64
        try clear c65
        try clear c67
        try clear c68
        try clear c69
        try clear c72
        try clear c73
        try clear hcz66_0 hcz66_1 hcz66_2
        try clear hcz70_0 hcz70_1 hcz70_2
        try clear hcz74_0 hcz74_1 hcz74_2
        try clear hfz66_0 hfz66_1 hfz66_2
        try clear hfz70_0 hfz70_1 hfz70_2
        try clear hfz74_0 hfz74_1 hfz74_2
        obtain ⟨kq, x365000_50, x365001_50, x365002_50, HA, HJ50, BK362, BK363, BK364, BK372, BK381, HB⟩ := hcut
        cases kq with
        | zero => exact absurd HA.out (by simp [salvorref16_next.j3])
        | succ kj50 =>
         have H := HA.out
         clear HA
         simp only [salvorref16_next.j3] at H
         replace H := Option.bind_eq_some_iff.mp H
         obtain ⟨t385, A750, H⟩ := H
         replace H : ((salvorref16_side.f kj50 a0_0 a0_1 a0_2 l1_3 47 t385).bind fun bt386 => (if bt386.2.2.2 = true then ((salvorref16_part.f a0_0 a0_1 a0_2 bt386.1 bt386.2.1 bt386.2.2.1 1 3).bind fun bt391 => (some (bt391.1, bt391.2.1, bt391.2.2, false))) else (salvorref16_next.j4 kj50 a0_0 a0_1 a0_2 a1_0 a1_1 a1_2 l1_3))) = some (r1, r2, r3, r4) := H
         have A75 := Aside0.mk A750
         clear A750
         replace H := Option.bind_eq_some_iff.mp H
         obtain ⟨⟨t386, t387, t388, t389⟩, A760, H⟩ := H
         replace H : (if t389 = true then ((salvorref16_part.f a0_0 a0_1 a0_2 t386 t387 t388 1 3).bind fun bt391 => (some (bt391.1, bt391.2.1, bt391.2.2, false))) else (salvorref16_next.j4 kj50 a0_0 a0_1 a0_2 a1_0 a1_1 a1_2 l1_3)) = some (r1, r2, r3, r4) := H
         have A76 := Aside0.mk A760
         clear A760
         have HC77 := Aside0.mk H
         clear H
         try go_wp2
         replace BK362 := Aside0.mk (blk_drew BK362.out)
         replace BK363 := Aside0.mk (blk_drew BK363.out)
         replace BK364 := Aside0.mk (blk_drew BK364.out)
         replace BK372 := Aside0.mk (blk_drew BK372.out)
         replace BK381 := Aside0.mk (blk_drew BK381.out)
         replace HB := Aside0.mk (below_drew1 HB.out)
         refine start_ (n := 14) (S := fun w' => w'.cell? ⟨gb362, 0, none⟩ = some (.int .i64 a0_0) ∧ w'.cell? ⟨gb362, 1, none⟩ = some (.int .i64 a0_1) ∧ w'.cell? ⟨gb362, 2, none⟩ = some (.bool a0_2) ∧ w'.cell? ⟨gb363, 0, none⟩ = some (.int .i64 a1_0) ∧ w'.cell? ⟨gb363, 1, none⟩ = some (.int .i64 a1_1) ∧ w'.cell? ⟨gb363, 2, none⟩ = some (.int .u8 a1_2) ∧ w'.cell? ⟨gb363, 3, none⟩ = some (.slice A1_3 l1_3.length c1_3)) (ds := []) #[false, false, false, false, false, false, false, false, false, false, false, false, false, false] (by kernel_rfl) rfl rfl (a3_ (k3_ BK362) (k4_ BK363)) (fun hHeld => ?_); refine with_tabW salvorref16_next.tab9 salvorref16_next.bits9 (fun HT_ HW_ => ?_)
         generalize wc.drew = w78 at BK362 BK363 BK364 BK372 BK381 HB hHeld ⊢
         refine pu_ 1 59 (lb_ 14 2) rfl rfl (ao_ HT_) ?_
         refine pu_ 4 62 (lb_ 14 18) rfl rfl (ao_ HT_) ?_
         refine tk_ 0 58 (lb_ 14 19) rfl rfl (take_ofW HT_.out HW_.out (by kernel_rfl)) hHeld ?_
         refine tk_ 2 60 (lb_ 14 23) rfl rfl (take_ofW HT_.out HW_.out (by kernel_rfl)) hHeld ?_
         refine tk_ 3 61 (lb_ 14 31) rfl rfl (take_ofW HT_.out HW_.out (by kernel_rfl)) hHeld ?_
         refine tk_ 5 63 (lb_ 14 63) rfl rfl (take_ofW HT_.out HW_.out (by kernel_rfl)) hHeld ?_
         refine join_ (σ := Nat) 2 #[true, true, true, true, true, true, true, true, true, true, true, true, false, false] (fun s_ => [(64, .int .i64 t385), (65, .tuple #[.agg #[.int .i64 t386, .int .i64 t387, .int .u8 t388], .bool t389]), (10, .pointer (some ⟨s_, 0, none⟩)), (57, .tuple #[.agg #[.int .i64 t386, .int .i64 t387, .int .u8 t388], .bool t389]), (66, .agg #[.int .i64 t386, .int .i64 t387, .int .u8 t388]), (67, .bool t389)]) (fun s_ w' => (w'.cell? ⟨gb362, 0, none⟩ = some (.int .i64 a0_0) ∧ w'.cell? ⟨gb362, 1, none⟩ = some (.int .i64 a0_1) ∧ w'.cell? ⟨gb362, 2, none⟩ = some (.bool a0_2) ∧ w'.cell? ⟨gb363, 0, none⟩ = some (.int .i64 a1_0) ∧ w'.cell? ⟨gb363, 1, none⟩ = some (.int .i64 a1_1) ∧ w'.cell? ⟨gb363, 2, none⟩ = some (.int .u8 a1_2) ∧ w'.cell? ⟨gb363, 3, none⟩ = some (.slice A1_3 l1_3.length c1_3)) ∧ (w'.heap[gb362]? = some (.cells #[.int .i64 a0_0, .int .i64 a0_1, .bool a0_2] 23 (0, 0))) ∧ (w'.heap[gb363]? = some (.cells #[.int .i64 a1_0, .int .i64 a1_1, .int .u8 a1_2, .slice A1_3 l1_3.length c1_3] 26 (0, 0))) ∧ (w'.heap[gb364]? = some (.cells #[.int .i64 x365000_50, .int .i64 x365001_50, .int .i64 x365002_50] 29 (0, 0))) ∧ (w'.heap[gb372]? = some (.cells #[.int .i64 t368, .int .i64 t369, .int .u8 t370] 33 (0, 0))) ∧ (w'.heap[gb381]? = some (.cells #[.int .i64 t377, .int .i64 t378, .int .u8 t379] 33 (0, 0))) ∧ (w'.heap[s_]? = some (.cells #[.int .i64 0, .int .i64 0, .int .u8 0] 33 (0, 0))) ∧ (w.heap.size ≤ s_) ∧ (w.heap.size ≤ s_) ∧ (gb362 ≠ s_) ∧ (s_ ≠ gb362) ∧ (gb363 ≠ s_) ∧ (s_ ≠ gb363) ∧ (gb364 ≠ s_) ∧ (s_ ≠ gb364) ∧ (gb372 ≠ s_) ∧ (s_ ≠ gb372) ∧ (gb381 ≠ s_) ∧ (s_ ≠ gb381) ∧ (Below w.heap.size w w')) ?_ ?_
         rotate_left
         ·intro hCont
          refine two_ (i := 6) (j := 11) (Ni := some 64) (Nj := some 10) #[true, true, true, true, true, true, true, false, false, false, false, false, false, false] #[true, true, true, true, true, true, false, false, false, false, false, true, false, false] rfl rfl rfl rfl (two_of HT_.out (by kernel_rfl)) (by decide) (by decide) (fun K hK => ?_) (fun K hK => ?_)
          ·skip
           refine gq_ Try.func52 (by kernel_rfl) rfl #[.agg #[.int .i64 a0_0, .int .i64 a0_1, .bool a0_2], .slice A1_3 l1_3.length c1_3] (by rfl) rfl rfl ?_
           with_reducible refine (salvorref16_begin.calls kj50 a0_0 a0_1 a0_2 _ _ l1_3 t385 _ ?side1 ?side2 A75.out).mono ?_
           (case side1 => exact cb_ HR1_3 HB)
           (case side2 => exact HC1_3.out)
           rintro e w79 ⟨rfl, hb⟩
           refine ⟨_, rfl, ?_⟩
           replace BK362 := bb_ BK362 hb
           replace BK363 := bb_ BK363 hb
           replace BK364 := bb_ BK364 hb
           replace BK372 := bb_ BK372 hb
           replace BK381 := bb_ BK381 hb
           replace HB := bs_ HB hb
           (try clear hb)
           refine hK.out _ _ (a3_ (k3_ BK362) (k4_ BK363)) (fun hHeld => ?_)
           clear hK K
           refine nm_ 64 ?_
           refine two_ (i := 7) (j := 11) (Ni := some 65) (Nj := some 10) #[true, true, true, true, true, true, true, true, false, false, false, false, false, false] #[true, true, true, true, true, true, true, false, false, false, false, true, false, false] rfl rfl rfl rfl (two_of HT_.out (by kernel_rfl)) (by decide) (by decide) (fun K hK => ?_) (fun K hK => ?_)
           ·skip
            refine gq_ Try.func62 (by kernel_rfl) rfl #[.agg #[.int .i64 a0_0, .int .i64 a0_1, .bool a0_2], .slice A1_3 l1_3.length c1_3, .int .u8 47, .int .i64 t385] (by rfl) rfl rfl ?_
            with_reducible refine (salvorref16_side.calls kj50 a0_0 a0_1 a0_2 _ _ l1_3 47 t385 t386 t387 t388 t389 _ ?side1 ?side2 A76.out).mono ?_
            (case side1 => exact cb_ HR1_3 HB)
            (case side2 => exact HC1_3.out)
            rintro e w80 ⟨rfl, hb⟩
            refine ⟨_, rfl, ?_⟩
            replace BK362 := bb_ BK362 hb
            replace BK363 := bb_ BK363 hb
            replace BK364 := bb_ BK364 hb
            replace BK372 := bb_ BK372 hb
            replace BK381 := bb_ BK381 hb
            replace HB := bs_ HB hb
            (try clear hb)
            refine hK.out _ _ (a3_ (k3_ BK362) (k4_ BK363)) (fun hHeld => ?_)
            clear hK K
            refine nm_ 65 ?_
            refine pu_ 8 57 (lb_ 14 511) rfl rfl (ao_ HT_) ?_
            refine pu_ 9 66 (lb_ 14 1023) rfl rfl (ao_ HT_) ?_
            refine pu_ 10 67 (lb_ 14 2047) rfl rfl (ao_ HT_) ?_
            refine one_ (i := 11) (N := some 10) #[true, true, true, true, true, true, true, true, true, true, true, true, false, false] rfl rfl (one_of HT_.out (by kernel_rfl)) (by decide) (fun K hK => ?_)
            refine box_step ?hg (N := 10) ?hd (cs := #[.int .i64 0, .int .i64 0, .int .u8 0]) (t := 33) ?hr ?_; (case hd => rfl); (case hg => rfl); (case hr => first | (go_simp; done) | (go_simp; rfl))
            intro gb390 hg w81 hbox hb
            have BK390 := Aside0.mk hbox
            have GW390 := bg_ HB hg
            have GE390 := bg_ HB hg
            have NB362_390 := bn_ BK362 hg
            have NB390_362 := bm_ BK362 hg
            have NB363_390 := bn_ BK363 hg
            have NB390_363 := bm_ BK363 hg
            have NB364_390 := bn_ BK364 hg
            have NB390_364 := bm_ BK364 hg
            have NB372_390 := bn_ BK372 hg
            have NB390_372 := bm_ BK372 hg
            have NB381_390 := bn_ BK381 hg
            have NB390_381 := bm_ BK381 hg
            replace BK362 := bb_ BK362 hb
            replace BK363 := bb_ BK363 hb
            replace BK364 := bb_ BK364 hb
            replace BK372 := bb_ BK372 hb
            replace BK381 := bb_ BK381 hb
            replace HB := bs_ HB hb
            clear hb hbox hg
            refine hK.out _ _ (a3_ (k3_ BK362) (k4_ BK363)) (fun hHeld => ?_)
            clear hK K
            refine nm_ 10 ?_
            exact norm_ (by simp only [putAll, Act.put, List.setIfInBounds_toArray, List.set_cons_zero, List.set_cons_succ]) (hCont (gb390) _ ⟨hHeld, (bq_ BK362), (bq_ BK363), (bq_ BK364), (bq_ BK372), (bq_ BK381), (bq_ BK390), GW390.out, GE390.out, NB362_390.out, NB390_362.out, NB363_390.out, NB390_363.out, NB364_390.out, NB390_364.out, NB372_390.out, NB390_372.out, NB381_390.out, NB390_381.out, (bh_ HB)⟩)
           ·skip
            refine box_step ?hg (N := 10) ?hd (cs := #[.int .i64 0, .int .i64 0, .int .u8 0]) (t := 33) ?hr ?_; (case hd => rfl); (case hg => rfl); (case hr => first | (go_simp; done) | (go_simp; rfl))
            intro gb390 hg w80 hbox hb
            have BK390 := Aside0.mk hbox
            have GW390 := bg_ HB hg
            have GE390 := bg_ HB hg
            have NB362_390 := bn_ BK362 hg
            have NB390_362 := bm_ BK362 hg
            have NB363_390 := bn_ BK363 hg
            have NB390_363 := bm_ BK363 hg
            have NB364_390 := bn_ BK364 hg
            have NB390_364 := bm_ BK364 hg
            have NB372_390 := bn_ BK372 hg
            have NB390_372 := bm_ BK372 hg
            have NB381_390 := bn_ BK381 hg
            have NB390_381 := bm_ BK381 hg
            replace BK362 := bb_ BK362 hb
            replace BK363 := bb_ BK363 hb
            replace BK364 := bb_ BK364 hb
            replace BK372 := bb_ BK372 hb
            replace BK381 := bb_ BK381 hb
            replace HB := bs_ HB hb
            clear hb hbox hg
            refine hK.out _ _ (a3_ (k3_ BK362) (k4_ BK363)) (fun hHeld => ?_)
            clear hK K
            refine nm_ 10 ?_
            refine one_ (i := 7) (N := some 65) #[true, true, true, true, true, true, true, true, false, false, false, true, false, false] rfl rfl (one_of HT_.out (by kernel_rfl)) (by decide) (fun K hK => ?_)
            refine gq_ Try.func62 (by kernel_rfl) rfl #[.agg #[.int .i64 a0_0, .int .i64 a0_1, .bool a0_2], .slice A1_3 l1_3.length c1_3, .int .u8 47, .int .i64 t385] (by rfl) rfl rfl ?_
            with_reducible refine (salvorref16_side.calls kj50 a0_0 a0_1 a0_2 _ _ l1_3 47 t385 t386 t387 t388 t389 _ ?side1 ?side2 A76.out).mono ?_
            (case side1 => exact cb_ HR1_3 HB)
            (case side2 => exact HC1_3.out)
            rintro e w81 ⟨rfl, hb⟩
            refine ⟨_, rfl, ?_⟩
            replace BK362 := bb_ BK362 hb
            replace BK363 := bb_ BK363 hb
            replace BK364 := bb_ BK364 hb
            replace BK372 := bb_ BK372 hb
            replace BK381 := bb_ BK381 hb
            replace BK390 := bb_ BK390 hb
            replace HB := bs_ HB hb
            (try clear hb)
            refine hK.out _ _ (a3_ (k3_ BK362) (k4_ BK363)) (fun hHeld => ?_)
            clear hK K
            refine nm_ 65 ?_
            refine pu_ 8 57 (lb_ 14 2559) rfl rfl (ao_ HT_) ?_
            refine pu_ 9 66 (lb_ 14 3071) rfl rfl (ao_ HT_) ?_
            refine pu_ 10 67 (lb_ 14 4095) rfl rfl (ao_ HT_) ?_
            exact norm_ (by simp only [putAll, Act.put, List.setIfInBounds_toArray, List.set_cons_zero, List.set_cons_succ]) (hCont (gb390) _ ⟨hHeld, (bq_ BK362), (bq_ BK363), (bq_ BK364), (bq_ BK372), (bq_ BK381), (bq_ BK390), GW390.out, GE390.out, NB362_390.out, NB390_362.out, NB363_390.out, NB390_363.out, NB364_390.out, NB390_364.out, NB372_390.out, NB390_372.out, NB381_390.out, NB390_381.out, (bh_ HB)⟩)
          ·skip
           refine box_step ?hg (N := 10) ?hd (cs := #[.int .i64 0, .int .i64 0, .int .u8 0]) (t := 33) ?hr ?_; (case hd => rfl); (case hg => rfl); (case hr => first | (go_simp; done) | (go_simp; rfl))
           intro gb390 hg w79 hbox hb
           have BK390 := Aside0.mk hbox
           have GW390 := bg_ HB hg
           have GE390 := bg_ HB hg
           have NB362_390 := bn_ BK362 hg
           have NB390_362 := bm_ BK362 hg
           have NB363_390 := bn_ BK363 hg
           have NB390_363 := bm_ BK363 hg
           have NB364_390 := bn_ BK364 hg
           have NB390_364 := bm_ BK364 hg
           have NB372_390 := bn_ BK372 hg
           have NB390_372 := bm_ BK372 hg
           have NB381_390 := bn_ BK381 hg
           have NB390_381 := bm_ BK381 hg
           replace BK362 := bb_ BK362 hb
           replace BK363 := bb_ BK363 hb
           replace BK364 := bb_ BK364 hb
           replace BK372 := bb_ BK372 hb
           replace BK381 := bb_ BK381 hb
           replace HB := bs_ HB hb
           clear hb hbox hg
           refine hK.out _ _ (a3_ (k3_ BK362) (k4_ BK363)) (fun hHeld => ?_)
           clear hK K
           refine nm_ 10 ?_
           refine one_ (i := 6) (N := some 64) #[true, true, true, true, true, true, true, false, false, false, false, true, false, false] rfl rfl (one_of HT_.out (by kernel_rfl)) (by decide) (fun K hK => ?_)
           refine gq_ Try.func52 (by kernel_rfl) rfl #[.agg #[.int .i64 a0_0, .int .i64 a0_1, .bool a0_2], .slice A1_3 l1_3.length c1_3] (by rfl) rfl rfl ?_
           with_reducible refine (salvorref16_begin.calls kj50 a0_0 a0_1 a0_2 _ _ l1_3 t385 _ ?side1 ?side2 A75.out).mono ?_
           (case side1 => exact cb_ HR1_3 HB)
           (case side2 => exact HC1_3.out)
           rintro e w80 ⟨rfl, hb⟩
           refine ⟨_, rfl, ?_⟩
           replace BK362 := bb_ BK362 hb
           replace BK363 := bb_ BK363 hb
           replace BK364 := bb_ BK364 hb
           replace BK372 := bb_ BK372 hb
           replace BK381 := bb_ BK381 hb
           replace BK390 := bb_ BK390 hb
           replace HB := bs_ HB hb
           (try clear hb)
           refine hK.out _ _ (a3_ (k3_ BK362) (k4_ BK363)) (fun hHeld => ?_)
           clear hK K
           refine nm_ 64 ?_
           refine one_ (i := 7) (N := some 65) #[true, true, true, true, true, true, true, true, false, false, false, true, false, false] rfl rfl (one_of HT_.out (by kernel_rfl)) (by decide) (fun K hK => ?_)
           refine gq_ Try.func62 (by kernel_rfl) rfl #[.agg #[.int .i64 a0_0, .int .i64 a0_1, .bool a0_2], .slice A1_3 l1_3.length c1_3, .int .u8 47, .int .i64 t385] (by rfl) rfl rfl ?_
           with_reducible refine (salvorref16_side.calls kj50 a0_0 a0_1 a0_2 _ _ l1_3 47 t385 t386 t387 t388 t389 _ ?side1 ?side2 A76.out).mono ?_
           (case side1 => exact cb_ HR1_3 HB)
           (case side2 => exact HC1_3.out)
           rintro e w81 ⟨rfl, hb⟩
           refine ⟨_, rfl, ?_⟩
           replace BK362 := bb_ BK362 hb
           replace BK363 := bb_ BK363 hb
           replace BK364 := bb_ BK364 hb
           replace BK372 := bb_ BK372 hb
           replace BK381 := bb_ BK381 hb
           replace BK390 := bb_ BK390 hb
           replace HB := bs_ HB hb
           (try clear hb)
           refine hK.out _ _ (a3_ (k3_ BK362) (k4_ BK363)) (fun hHeld => ?_)
           clear hK K
           refine nm_ 65 ?_
           refine pu_ 8 57 (lb_ 14 2559) rfl rfl (ao_ HT_) ?_
           refine pu_ 9 66 (lb_ 14 3071) rfl rfl (ao_ HT_) ?_
           refine pu_ 10 67 (lb_ 14 4095) rfl rfl (ao_ HT_) ?_
           exact norm_ (by simp only [putAll, Act.put, List.setIfInBounds_toArray, List.set_cons_zero, List.set_cons_succ]) (hCont (gb390) _ ⟨hHeld, (bq_ BK362), (bq_ BK363), (bq_ BK364), (bq_ BK372), (bq_ BK381), (bq_ BK390), GW390.out, GE390.out, NB362_390.out, NB390_362.out, NB363_390.out, NB390_363.out, NB364_390.out, NB390_364.out, NB372_390.out, NB390_372.out, NB381_390.out, NB390_381.out, (bh_ HB)⟩)
         rintro gb390 w82 ⟨hS_, h0_, h1_, h2_, h3_, h4_, h5_, h6_, h7_, h8_, h9_, h10_, h11_, h12_, h13_, h14_, h15_, h16_, h17_, h18_⟩
         have n0_ : Aside0 (w82.heap[gb362]? = some (.cells #[.int .i64 a0_0, .int .i64 a0_1, .bool a0_2] 23 (0, 0))) := ⟨h0_⟩
         have n1_ : Aside0 (w82.heap[gb363]? = some (.cells #[.int .i64 a1_0, .int .i64 a1_1, .int .u8 a1_2, .slice A1_3 l1_3.length c1_3] 26 (0, 0))) := ⟨h1_⟩
         have n2_ : Aside0 (w82.heap[gb364]? = some (.cells #[.int .i64 x365000_50, .int .i64 x365001_50, .int .i64 x365002_50] 29 (0, 0))) := ⟨h2_⟩
         have n3_ : Aside0 (w82.heap[gb372]? = some (.cells #[.int .i64 t368, .int .i64 t369, .int .u8 t370] 33 (0, 0))) := ⟨h3_⟩
         have n4_ : Aside0 (w82.heap[gb381]? = some (.cells #[.int .i64 t377, .int .i64 t378, .int .u8 t379] 33 (0, 0))) := ⟨h4_⟩
         have n5_ : Aside0 (w82.heap[gb390]? = some (.cells #[.int .i64 0, .int .i64 0, .int .u8 0] 33 (0, 0))) := ⟨h5_⟩
         have n6_ : Aside0 (w.heap.size ≤ gb390) := ⟨h6_⟩
         have n7_ : Aside0 (w.heap.size ≤ gb390) := ⟨h7_⟩
         have n8_ : Aside0 (gb362 ≠ gb390) := ⟨h8_⟩
         have n9_ : Aside0 (gb390 ≠ gb362) := ⟨h9_⟩
         have n10_ : Aside0 (gb363 ≠ gb390) := ⟨h10_⟩
         have n11_ : Aside0 (gb390 ≠ gb363) := ⟨h11_⟩
         have n12_ : Aside0 (gb364 ≠ gb390) := ⟨h12_⟩
         have n13_ : Aside0 (gb390 ≠ gb364) := ⟨h13_⟩
         have n14_ : Aside0 (gb372 ≠ gb390) := ⟨h14_⟩
         have n15_ : Aside0 (gb390 ≠ gb372) := ⟨h15_⟩
         have n16_ : Aside0 (gb381 ≠ gb390) := ⟨h16_⟩
         have n17_ : Aside0 (gb390 ≠ gb381) := ⟨h17_⟩
         have n18_ : Aside0 (Below w.heap.size w w82) := ⟨h18_⟩
         clear BK362
         clear BK363
         clear BK364
         clear BK372
         clear BK381
         clear HB
         clear h0_ h1_ h2_ h3_ h4_ h5_ h6_ h7_ h8_ h9_ h10_ h11_ h12_ h13_ h14_ h15_ h16_ h17_ h18_
         have BK362 := n0_
         have BK363 := n1_
         have BK364 := n2_
         have BK372 := n3_
         have BK381 := n4_
         have BK390 := n5_
         have GW390 := n6_
         have GE390 := n7_
         have NB362_390 := n8_
         have NB390_362 := n9_
         have NB363_390 := n10_
         have NB390_363 := n11_
         have NB364_390 := n12_
         have NB390_364 := n13_
         have NB372_390 := n14_
         have NB390_372 := n15_
         have NB381_390 := n16_
         have NB390_381 := n17_
         have HB := n18_
         clear n0_ n1_ n2_ n3_ n4_ n5_ n6_ n7_ n8_ n9_ n10_ n11_ n12_ n13_ n14_ n15_ n16_ n17_ n18_
         have hHeld : w82.cell? ⟨gb362, 0, none⟩ = some (.int .i64 a0_0) ∧ w82.cell? ⟨gb362, 1, none⟩ = some (.int .i64 a0_1) ∧ w82.cell? ⟨gb362, 2, none⟩ = some (.bool a0_2) ∧ w82.cell? ⟨gb363, 0, none⟩ = some (.int .i64 a1_0) ∧ w82.cell? ⟨gb363, 1, none⟩ = some (.int .i64 a1_1) ∧ w82.cell? ⟨gb363, 2, none⟩ = some (.int .u8 a1_2) ∧ w82.cell? ⟨gb363, 3, none⟩ = some (.slice A1_3 l1_3.length c1_3) := hS_
         refine norm_ (a' := ?_) ?_ ?_
         rotate_left
         ·simp only [putAll, Act.put, List.setIfInBounds_toArray, List.set_cons_zero, List.set_cons_succ]
          rfl
         refine one_ (i := 12) (N := none) #[true, true, true, true, true, true, true, true, true, true, true, true, true, false] rfl rfl (one_of HT_.out (by kernel_rfl)) (by decide) (fun K hK => ?_)
         have hs83 : w82.cell? ⟨gb390, 0, none⟩ = some (.int .i64 0) := (blk_cell BK390.out 0).trans rfl
         have hfs83 := blk_frozen BK390.out 0
         have hns83_0 := NB362_390.out
         have hns83_1 := NB363_390.out
         have hns83_2 := NB364_390.out
         have hns83_3 := NB372_390.out
         have hns83_4 := NB381_390.out
         have hms83_0 := NB390_362.out
         have hms83_1 := NB390_363.out
         have hms83_2 := NB390_364.out
         have hms83_3 := NB390_372.out
         have hms83_4 := NB390_381.out
         have hs84 : w82.cell? ⟨gb390, 1, none⟩ = some (.int .i64 0) := (blk_cell BK390.out 1).trans rfl
         have hfs84 := blk_frozen BK390.out 1
         have hns84_0 := NB362_390.out
         have hns84_1 := NB363_390.out
         have hns84_2 := NB364_390.out
         have hns84_3 := NB372_390.out
         have hns84_4 := NB381_390.out
         have hms84_0 := NB390_362.out
         have hms84_1 := NB390_363.out
         have hms84_2 := NB390_364.out
         have hms84_3 := NB390_372.out
         have hms84_4 := NB390_381.out
         have hs85 : w82.cell? ⟨gb390, 2, none⟩ = some (.int .u8 0) := (blk_cell BK390.out 2).trans rfl
         have hfs85 := blk_frozen BK390.out 2
         have hns85_0 := NB362_390.out
         have hns85_1 := NB363_390.out
         have hns85_2 := NB364_390.out
         have hns85_3 := NB372_390.out
         have hns85_4 := NB381_390.out
         have hms85_0 := NB390_362.out
         have hms85_1 := NB390_363.out
         have hms85_2 := NB390_364.out
         have hms85_3 := NB390_372.out
         have hms85_4 := NB390_381.out
         refine skip_ (w1 := ?_) (by rfl) rfl ?_ ?_
         rotate_left
         ·go_simp
          rfl
         refine hK.out _ _ ⟨(cf_ NB362_390 ((cf_ NB362_390 ((cf_ NB362_390 (hHeld.1)))))), (cf_ NB362_390 ((cf_ NB362_390 ((cf_ NB362_390 (hHeld.2.1)))))), (cf_ NB362_390 ((cf_ NB362_390 ((cf_ NB362_390 (hHeld.2.2.1)))))), (cf_ NB363_390 ((cf_ NB363_390 ((cf_ NB363_390 (hHeld.2.2.2.1)))))), (cf_ NB363_390 ((cf_ NB363_390 ((cf_ NB363_390 (hHeld.2.2.2.2.1)))))), (cf_ NB363_390 ((cf_ NB363_390 ((cf_ NB363_390 (hHeld.2.2.2.2.2.1)))))), (cf_ NB363_390 ((cf_ NB363_390 ((cf_ NB363_390 (hHeld.2.2.2.2.2.2))))))⟩ (fun hHeld => ?_)
         clear hK K
         refine pu_ 13 11 (lb_ 14 16383) rfl rfl (ao_ HT_) ?_
         refine done_ (done_of HT_.out (by kernel_rfl)) ?_
         go_upto_if 68 with (fail)
         go_cut [] (fun wc => ∃ (kq : Nat) (x365000_76 : Int) (x365001_76 : Int) (x365002_76 : Int), Aside0 (salvorref16_next.j4 kq a0_0 a0_1 a0_2 a1_0 a1_1 a1_2 l1_3 = some (r1, r2, r3, r4)) ∧ Aside0 (kq ≤ kj50) ∧ Aside0 (wc.heap[gb362]? = some (.cells #[.int .i64 a0_0, .int .i64 a0_1, .bool a0_2] 23 (0, 0))) ∧ Aside0 (wc.heap[gb363]? = some (.cells #[.int .i64 a1_0, .int .i64 a1_1, .int .u8 a1_2, (.slice A1_3 l1_3.length c1_3)] 26 (0, 0))) ∧ Aside0 (wc.heap[gb364]? = some (.cells #[.int .i64 x365000_76, .int .i64 x365001_76, .int .i64 x365002_76] 29 (0, 0))) ∧ Aside0 (wc.heap[gb372]? = some (.cells #[.int .i64 t368, .int .i64 t369, .int .u8 t370] 33 (0, 0))) ∧ Aside0 (wc.heap[gb381]? = some (.cells #[.int .i64 t377, .int .i64 t378, .int .u8 t379] 33 (0, 0))) ∧ Aside0 (wc.heap[gb390]? = some (.cells #[.int .i64 t386, .int .i64 t387, .int .u8 t388] 33 (0, 0))) ∧ Aside0 (Below w.heap.size w wc))
         case first =>
          have H := HC77.out
          clear HC77
          by_cases c86 : t389 = true
          ·subst c86
           have H1 : ((salvorref16_part.f a0_0 a0_1 a0_2 t386 t387 t388 1 3).bind fun bt391 => (some (bt391.1, bt391.2.1, bt391.2.2, false))) = some (r1, r2, r3, r4) := by rw [if_pos rfl] at H; exact H
           clear H
           have H := H1
           clear H1
           replace H := Option.bind_eq_some_iff.mp H
           obtain ⟨⟨t391, t392, t393⟩, A870, H⟩ := H
           replace H : (some (t391, t392, t393, false)) = some (r1, r2, r3, r4) := H
           have A87 := Aside0.mk A870
           clear A870
           simp only [Option.some.injEq, Prod.mk.injEq] at H
           obtain ⟨rfl, rfl, rfl, rfl⟩ := H
           have hnb88 := NB362_363.out
           have hnc88 := NB363_362.out
           have hnb89 := NB362_364.out
           have hnc89 := NB364_362.out
           have hnb90 := NB362_372.out
           have hnc90 := NB372_362.out
           have hnb91 := NB362_381.out
           have hnc91 := NB381_362.out
           have hnb92 := NB362_390.out
           have hnc92 := NB390_362.out
           obtain ⟨hcz93_0, hcz93_1, hcz93_2, hfz93_0, hfz93_1, hfz93_2⟩ := c3_ BK362
           have hnb94 := NB390_363.out
           have hnc94 := NB363_390.out
           have hnb95 := NB390_364.out
           have hnc95 := NB364_390.out
           have hnb96 := NB390_372.out
           have hnc96 := NB372_390.out
           have hnb97 := NB390_381.out
           have hnc97 := NB381_390.out
           obtain ⟨hcz98_0, hcz98_1, hcz98_2, hfz98_0, hfz98_1, hfz98_2⟩ := c3_ BK390
           go_wp2_with (first | ((with_reducible refine gate_callee (f := 63) rfl ?_); refine gl_ (some 71) rfl rfl Try.func63 (by kernel_rfl) rfl #[.agg #[.int .i64 a0_0, .int .i64 a0_1, .bool a0_2], .agg #[.int .i64 t386, .int .i64 t387, .int .u8 t388], .int .i64 1, .int .i64 3] rfl ?_; (with_reducible refine (salvorref16_part.calls a0_0 a0_1 a0_2 t386 t387 t388 1 3 t391 t392 t393 _ A87.out).mono ?_); rintro e w99 ⟨rfl, hb⟩; refine ⟨_, rfl, ?_⟩; replace BK362 := Aside0.mk (blk_below (g := gb362) (o := .cells #[.int .i64 a0_0, .int .i64 a0_1, .bool a0_2] 23 (0, 0)) (bp_ BK362) hb); replace BK363 := Aside0.mk (blk_below (g := gb363) (o := .cells #[.int .i64 a1_0, .int .i64 a1_1, .int .u8 a1_2, .slice A1_3 l1_3.length c1_3] 26 (0, 0)) (bp_ BK363) hb); replace BK364 := Aside0.mk (blk_below (g := gb364) (o := .cells #[.int .i64 x365000_50, .int .i64 x365001_50, .int .i64 x365002_50] 29 (0, 0)) (bp_ BK364) hb); replace BK372 := Aside0.mk (blk_below (g := gb372) (o := .cells #[.int .i64 t368, .int .i64 t369, .int .u8 t370] 33 (0, 0)) (bp_ BK372) hb); replace BK381 := Aside0.mk (blk_below (g := gb381) (o := .cells #[.int .i64 t377, .int .i64 t378, .int .u8 t379] 33 (0, 0)) (bp_ BK381) hb); replace BK390 := Aside0.mk (blk_below (g := gb390) (o := .cells #[.int .i64 t386, .int .i64 t387, .int .u8 t388] 33 (0, 0)) (bp_ BK390) hb); replace HB := bs_ HB hb; (try clear hb); have hnb100 := NB364_363.out; have hnc100 := NB363_364.out; have hnb101 := NB364_372.out; have hnc101 := NB372_364.out; have hnb102 := NB364_381.out; have hnc102 := NB381_364.out; obtain ⟨hcz103_0, hcz103_1, hcz103_2, hfz103_0, hfz103_1, hfz103_2⟩ := c3_ BK364))
           refine bodyPost_ret (results_ct rfl _ _ gb364 29 #[.int .i64 t391, .int .i64 t392, .int .i64 t393] (0, 0) _ rfl (bp_ BK364) Try.underlying29 rfl (by kernel_rfl)) rfl ?_
           exact ⟨by first | rfl | (simp [errW_none, errW_some] <;> rfl) | (simp [*, errW_none, errW_some] <;> rfl), bh_ HB⟩
          ·replace c86 := Bool.eq_false_iff.mpr c86
           subst c86
           have H1 : (salvorref16_next.j4 kj50 a0_0 a0_1 a0_2 a1_0 a1_1 a1_2 l1_3) = some (r1, r2, r3, r4) := by rw [if_neg (show ¬ (false = true) by decide)] at H; exact H
           clear H
           have H := H1
           clear H1
           have H' := Aside0.mk H
           clear H
           go_wp2
           go_meet
           case rel => exact ⟨_, (x365000_50), (x365001_50), (x365002_50), H', ⟨by have := HJ2.out; have := HJ20.out; have := HJ27.out; have := HJ50.out; first | omega | exact Nat.le_refl _⟩, ⟨by (with_reducible repeat (first | refine blk_drewN ?_ _ | refine blk_drew ?_ | refine blk_alloc ?_ _)); refine blk_far ?_ NB362_390.out _; (with_reducible repeat (first | refine blk_drewN ?_ _ | refine blk_drew ?_ | refine blk_alloc ?_ _)); refine blk_far ?_ NB362_390.out _; (with_reducible repeat (first | refine blk_drewN ?_ _ | refine blk_drew ?_ | refine blk_alloc ?_ _)); refine blk_far ?_ NB362_390.out _; (with_reducible repeat (first | refine blk_drewN ?_ _ | refine blk_drew ?_ | refine blk_alloc ?_ _)); exact BK362.out⟩, ⟨by (with_reducible repeat (first | refine blk_drewN ?_ _ | refine blk_drew ?_ | refine blk_alloc ?_ _)); refine blk_far ?_ NB363_390.out _; (with_reducible repeat (first | refine blk_drewN ?_ _ | refine blk_drew ?_ | refine blk_alloc ?_ _)); refine blk_far ?_ NB363_390.out _; (with_reducible repeat (first | refine blk_drewN ?_ _ | refine blk_drew ?_ | refine blk_alloc ?_ _)); refine blk_far ?_ NB363_390.out _; (with_reducible repeat (first | refine blk_drewN ?_ _ | refine blk_drew ?_ | refine blk_alloc ?_ _)); exact BK363.out⟩, ⟨by (with_reducible repeat (first | refine blk_drewN ?_ _ | refine blk_drew ?_ | refine blk_alloc ?_ _)); refine blk_far ?_ NB364_390.out _; (with_reducible repeat (first | refine blk_drewN ?_ _ | refine blk_drew ?_ | refine blk_alloc ?_ _)); refine blk_far ?_ NB364_390.out _; (with_reducible repeat (first | refine blk_drewN ?_ _ | refine blk_drew ?_ | refine blk_alloc ?_ _)); refine blk_far ?_ NB364_390.out _; (with_reducible repeat (first | refine blk_drewN ?_ _ | refine blk_drew ?_ | refine blk_alloc ?_ _)); exact BK364.out⟩, ⟨by (with_reducible repeat (first | refine blk_drewN ?_ _ | refine blk_drew ?_ | refine blk_alloc ?_ _)); refine blk_far ?_ NB372_390.out _; (with_reducible repeat (first | refine blk_drewN ?_ _ | refine blk_drew ?_ | refine blk_alloc ?_ _)); refine blk_far ?_ NB372_390.out _; (with_reducible repeat (first | refine blk_drewN ?_ _ | refine blk_drew ?_ | refine blk_alloc ?_ _)); refine blk_far ?_ NB372_390.out _; (with_reducible repeat (first | refine blk_drewN ?_ _ | refine blk_drew ?_ | refine blk_alloc ?_ _)); exact BK372.out⟩, ⟨by (with_reducible repeat (first | refine blk_drewN ?_ _ | refine blk_drew ?_ | refine blk_alloc ?_ _)); refine blk_far ?_ NB381_390.out _; (with_reducible repeat (first | refine blk_drewN ?_ _ | refine blk_drew ?_ | refine blk_alloc ?_ _)); refine blk_far ?_ NB381_390.out _; (with_reducible repeat (first | refine blk_drewN ?_ _ | refine blk_drew ?_ | refine blk_alloc ?_ _)); refine blk_far ?_ NB381_390.out _; (with_reducible repeat (first | refine blk_drewN ?_ _ | refine blk_drew ?_ | refine blk_alloc ?_ _)); exact BK381.out⟩, ⟨by (with_reducible repeat (first | refine blk_drewN ?_ _ | refine blk_drew ?_ | refine blk_alloc ?_ _)); refine blk_put (cs := #[.int .i64 t386, .int .i64 t387, .int .u8 0]) ?_ 2 _ rfl; (with_reducible repeat (first | refine blk_drewN ?_ _ | refine blk_drew ?_ | refine blk_alloc ?_ _)); refine blk_put (cs := #[.int .i64 t386, .int .i64 0, .int .u8 0]) ?_ 1 _ rfl; (with_reducible repeat (first | refine blk_drewN ?_ _ | refine blk_drew ?_ | refine blk_alloc ?_ _)); refine blk_put (cs := #[.int .i64 0, .int .i64 0, .int .u8 0]) ?_ 0 _ rfl; (with_reducible repeat (first | refine blk_drewN ?_ _ | refine blk_drew ?_ | refine blk_alloc ?_ _)); exact BK390.out⟩, ⟨bh_ HB⟩⟩
         case rest =>
          clear HC77
          try clear c1
          try clear p2
          try clear c5
          try clear c6
          try clear c8
          try clear c9
          try clear c10
          try clear c52
          try clear c62
          try clear c63
          try clear c86
          try clear c88
          try clear c89
          try clear c90
          try clear c91
          try clear c92
          try clear c94
          try clear c95
          try clear c96
          try clear c97
          try clear c100
          try clear c101
          try clear c102
          try clear hcz103_0 hcz103_1 hcz103_2
          try clear hcz93_0 hcz93_1 hcz93_2
          try clear hcz98_0 hcz98_1 hcz98_2
          try clear hfz103_0 hfz103_1 hfz103_2
          try clear hfz93_0 hfz93_1 hfz93_2
          try clear hfz98_0 hfz98_1 hfz98_2
          obtain ⟨kq, x365000_76, x365001_76, x365002_76, HA, HJ76, BK362, BK363, BK364, BK372, BK381, BK390, HB⟩ := hcut
          cases kq with
          | zero => exact absurd HA.out (by simp [salvorref16_next.j4])
          | succ kj76 =>
           have H := HA.out
           clear HA
           simp only [salvorref16_next.j4] at H
           have HC104 := Aside0.mk H
           clear H
           have hnb105 := NB363_362.out
           have hnc105 := NB362_363.out
           have hnb106 := NB363_364.out
           have hnc106 := NB364_363.out
           have hnb107 := NB363_372.out
           have hnc107 := NB372_363.out
           have hnb108 := NB363_381.out
           have hnc108 := NB381_363.out
           have hnb109 := NB363_390.out
           have hnc109 := NB390_363.out
           obtain ⟨hcz110_0, hcz110_1, hcz110_2, hcz110_3, hfz110_0, hfz110_1, hfz110_2, hfz110_3⟩ := c4_ BK363
           have hnb111 := NB362_364.out
           have hnc111 := NB364_362.out
           have hnb112 := NB362_372.out
           have hnc112 := NB372_362.out
           have hnb113 := NB362_381.out
           have hnc113 := NB381_362.out
           have hnb114 := NB362_390.out
           have hnc114 := NB390_362.out
           obtain ⟨hcz115_0, hcz115_1, hcz115_2, hfz115_0, hfz115_1, hfz115_2⟩ := c3_ BK362
           go_upto_if 76 with (fail)
           go_cut [] (fun wc => ∃ (kq : Nat) (x365000_103 : Int) (x365001_103 : Int) (x365002_103 : Int), Aside0 (salvorref16_next.j5 kq a0_0 a0_1 a0_2 a1_0 a1_1 a1_2 l1_3 = some (r1, r2, r3, r4)) ∧ Aside0 (kq ≤ kj76) ∧ Aside0 (wc.heap[gb362]? = some (.cells #[.int .i64 a0_0, .int .i64 a0_1, .bool a0_2] 23 (0, 0))) ∧ Aside0 (wc.heap[gb363]? = some (.cells #[.int .i64 a1_0, .int .i64 a1_1, .int .u8 a1_2, (.slice A1_3 l1_3.length c1_3)] 26 (0, 0))) ∧ Aside0 (wc.heap[gb364]? = some (.cells #[.int .i64 x365000_103, .int .i64 x365001_103, .int .i64 x365002_103] 29 (0, 0))) ∧ Aside0 (wc.heap[gb372]? = some (.cells #[.int .i64 t368, .int .i64 t369, .int .u8 t370] 33 (0, 0))) ∧ Aside0 (wc.heap[gb381]? = some (.cells #[.int .i64 t377, .int .i64 t378, .int .u8 t379] 33 (0, 0))) ∧ Aside0 (wc.heap[gb390]? = some (.cells #[.int .i64 t386, .int .i64 t387, .int .u8 t388] 33 (0, 0))) ∧ Aside0 (Below w.heap.size w wc))
           case first =>
            have H := HC104.out
            clear HC104
            by_cases c116 : a1_1 ≥ a0_1
            ·rw [if_pos c116] at H
             have c116b0 : decide (a0_1 ≤ a1_1) = true := decide_eq_true c116
             clear c116
             (first | rw [c116b0] | (simp only [i64_w, i32_w]; rw [c116b0]) | skip)
             simp only [Option.some.injEq, Prod.mk.injEq] at H
             obtain ⟨rfl, rfl, rfl, rfl⟩ := H
             have hnb117 := NB364_362.out
             have hnc117 := NB362_364.out
             have hnb118 := NB364_363.out
             have hnc118 := NB363_364.out
             have hnb119 := NB364_372.out
             have hnc119 := NB372_364.out
             have hnb120 := NB364_381.out
             have hnc120 := NB381_364.out
             have hnb121 := NB364_390.out
             have hnc121 := NB390_364.out
             obtain ⟨hcz122_0, hcz122_1, hcz122_2, hfz122_0, hfz122_1, hfz122_2⟩ := c3_ BK364
             go_wp2
             refine bodyPost_ret (results_ct rfl _ _ gb364 29 #[.int .i64 0, .int .i64 0, .int .i64 0] (0, 0) _ rfl (bp_ BK364) Try.underlying29 rfl (by kernel_rfl)) rfl ?_
             exact ⟨by first | rfl | (simp [errW_none, errW_some] <;> rfl) | (simp [*, errW_none, errW_some] <;> rfl), bh_ HB⟩
            ·rw [if_neg c116] at H
             have c116b0 : decide (a0_1 ≤ a1_1) = false := decide_eq_false c116
             clear c116
             (first | rw [c116b0] | (simp only [i64_w, i32_w]; rw [c116b0]) | skip)
             have H' := Aside0.mk H
             clear H
             go_wp2
             go_meet
             case rel => exact ⟨_, (x365000_76), (x365001_76), (x365002_76), H', ⟨by have := HJ2.out; have := HJ20.out; have := HJ27.out; have := HJ50.out; have := HJ76.out; first | omega | exact Nat.le_refl _⟩, ⟨bq_ BK362⟩, ⟨bq_ BK363⟩, ⟨bq_ BK364⟩, ⟨bq_ BK372⟩, ⟨bq_ BK381⟩, ⟨bq_ BK390⟩, ⟨bh_ HB⟩⟩
           case rest =>
            clear HC104
            try clear c1
            try clear p2
            try clear c5
            try clear c6
            try clear c8
            try clear c9
            try clear c10
            try clear c11
            try clear c12
            try clear c52
            try clear c62
            try clear c63
            try clear c86
            try clear c88
            try clear c89
            try clear c90
            try clear c91
            try clear c92
            try clear c94
            try clear c95
            try clear c96
            try clear c97
            try clear c100
            try clear c101
            try clear c102
            try clear c105
            try clear c106
            try clear c107
            try clear c108
            try clear c109
            try clear c111
            try clear c112
            try clear c113
            try clear c114
            try clear c116
            try clear c116b0
            try clear c117
            try clear c118
            try clear c119
            try clear c120
            try clear c121
            try clear hcz103_0 hcz103_1 hcz103_2
            try clear hcz110_0 hcz110_1 hcz110_2 hcz110_3
            try clear hcz115_0 hcz115_1 hcz115_2
            try clear hcz122_0 hcz122_1 hcz122_2
            try clear hcz93_0 hcz93_1 hcz93_2
            try clear hcz98_0 hcz98_1 hcz98_2
            try clear hfz103_0 hfz103_1 hfz103_2
            try clear hfz110_0 hfz110_1 hfz110_2 hfz110_3
            try clear hfz115_0 hfz115_1 hfz115_2
            try clear hfz122_0 hfz122_1 hfz122_2
            try clear hfz93_0 hfz93_1 hfz93_2
            try clear hfz98_0 hfz98_1 hfz98_2
            try clear p2
            obtain ⟨kq, x365000_103, x365001_103, x365002_103, HA, HJ103, BK362, BK363, BK364, BK372, BK381, BK390, HB⟩ := hcut
            cases kq with
            | zero => exact absurd HA.out (by simp [salvorref16_next.j5])
            | succ kj103 =>
             have H := HA.out
             clear HA
             simp only [salvorref16_next.j5] at H
             replace H := Option.bind_eq_some_iff.mp H
             obtain ⟨⟨t394, t395, t396, t397⟩, A1230, H⟩ := H
             replace H : (if t397 = true then ((salvorref16_part.f a0_0 a0_1 a0_2 t394 t395 t396 1 4).bind fun bt399 => (some (bt399.1, bt399.2.1, bt399.2.2, false))) else (salvorref16_next.j6 kj103 a0_0 a0_1 a0_2 a1_0 a1_1 a1_2 l1_3)) = some (r1, r2, r3, r4) := H
             have A123 := Aside0.mk A1230
             clear A1230
             have HC124 := Aside0.mk H
             clear H
             have hnb125 := NB362_363.out
             have hnc125 := NB363_362.out
             have hnb126 := NB362_364.out
             have hnc126 := NB364_362.out
             have hnb127 := NB362_372.out
             have hnc127 := NB372_362.out
             have hnb128 := NB362_381.out
             have hnc128 := NB381_362.out
             have hnb129 := NB362_390.out
             have hnc129 := NB390_362.out
             obtain ⟨hcz130_0, hcz130_1, hcz130_2, hfz130_0, hfz130_1, hfz130_2⟩ := c3_ BK362
             have hnb131 := NB363_364.out
             have hnc131 := NB364_363.out
             have hnb132 := NB363_372.out
             have hnc132 := NB372_363.out
             have hnb133 := NB363_381.out
             have hnc133 := NB381_363.out
             have hnb134 := NB363_390.out
             have hnc134 := NB390_363.out
             obtain ⟨hcz135_0, hcz135_1, hcz135_2, hcz135_3, hfz135_0, hfz135_1, hfz135_2, hfz135_3⟩ := c4_ BK363
             go_upto_if 87 with (first | ((with_reducible refine gate_callee (f := 62) rfl ?_); refine gl_ (some 84) rfl rfl Try.func62 (by kernel_rfl) rfl #[.agg #[.int .i64 a0_0, .int .i64 a0_1, .bool a0_2], .slice A1_3 l1_3.length c1_3, .int .u8 45, .int .i64 a1_0] rfl ?_; (with_reducible refine (salvorref16_side.calls kj103 a0_0 a0_1 a0_2 _ _ l1_3 45 a1_0 t394 t395 t396 t397 _ ?side1 ?side2 A123.out).mono ?_); (case side1 => exact cb_ HR1_3 HB); (case side2 => exact HC1_3.out); rintro e w136 ⟨rfl, hb⟩; refine ⟨_, rfl, ?_⟩; replace BK362 := bb_ BK362 hb; replace BK363 := bb_ BK363 hb; replace BK364 := bb_ BK364 hb; replace BK372 := bb_ BK372 hb; replace BK381 := bb_ BK381 hb; replace BK390 := bb_ BK390 hb; replace HB := bs_ HB hb; (try clear hb)) | ((with_reducible refine gate_dst (N := 12) rfl ?_); refine box_e 12 #[.int .i64 0, .int .i64 0, .int .u8 0] 33 ?_; intro gb398 hg w137 hbox hb; have BK398 := Aside0.mk hbox; have GW398 := bg_ HB hg; have GE398 := bg_ HB hg; have NB362_398 := bn_ BK362 hg; have NB398_362 := bm_ BK362 hg; have NB363_398 := bn_ BK363 hg; have NB398_363 := bm_ BK363 hg; have NB364_398 := bn_ BK364 hg; have NB398_364 := bm_ BK364 hg; have NB372_398 := bn_ BK372 hg; have NB398_372 := bm_ BK372 hg; have NB381_398 := bn_ BK381 hg; have NB398_381 := bm_ BK381 hg; have NB390_398 := bn_ BK390 hg; have NB398_390 := bm_ BK390 hg; replace BK362 := bb_ BK362 hb; replace BK363 := bb_ BK363 hb; replace BK364 := bb_ BK364 hb; replace BK372 := bb_ BK372 hb; replace BK381 := bb_ BK381 hb; replace BK390 := bb_ BK390 hb; replace HB := bs_ HB hb; clear hb hbox hg; have hnb138 := NB398_362.out; have hnc138 := NB362_398.out; have hnb139 := NB398_363.out; have hnc139 := NB363_398.out; have hnb140 := NB398_364.out; have hnc140 := NB364_398.out; have hnb141 := NB398_372.out; have hnc141 := NB372_398.out; have hnb142 := NB398_381.out; have hnc142 := NB381_398.out; have hnb143 := NB398_390.out; have hnc143 := NB390_398.out; obtain ⟨hcz144_0, hcz144_1, hcz144_2, hfz144_0, hfz144_1, hfz144_2⟩ := c3_ BK398))
             (try simp only [Act.put, List.setIfInBounds_toArray, List.set_cons_zero, List.set_cons_succ])
             go_cut [] (fun wc => ∃ (kq : Nat) (x365000_123 : Int) (x365001_123 : Int) (x365002_123 : Int), Aside0 (salvorref16_next.j6 kq a0_0 a0_1 a0_2 a1_0 a1_1 a1_2 l1_3 = some (r1, r2, r3, r4)) ∧ Aside0 (kq ≤ kj103) ∧ Aside0 (wc.heap[gb362]? = some (.cells #[.int .i64 a0_0, .int .i64 a0_1, .bool a0_2] 23 (0, 0))) ∧ Aside0 (wc.heap[gb363]? = some (.cells #[.int .i64 a1_0, .int .i64 a1_1, .int .u8 a1_2, (.slice A1_3 l1_3.length c1_3)] 26 (0, 0))) ∧ Aside0 (wc.heap[gb364]? = some (.cells #[.int .i64 x365000_123, .int .i64 x365001_123, .int .i64 x365002_123] 29 (0, 0))) ∧ Aside0 (wc.heap[gb372]? = some (.cells #[.int .i64 t368, .int .i64 t369, .int .u8 t370] 33 (0, 0))) ∧ Aside0 (wc.heap[gb381]? = some (.cells #[.int .i64 t377, .int .i64 t378, .int .u8 t379] 33 (0, 0))) ∧ Aside0 (wc.heap[gb390]? = some (.cells #[.int .i64 t386, .int .i64 t387, .int .u8 t388] 33 (0, 0))) ∧ Aside0 (wc.heap[gb398]? = some (.cells #[.int .i64 t394, .int .i64 t395, .int .u8 t396] 33 (0, 0))) ∧ Aside0 (Below w.heap.size w wc))
             case first =>
              have H := HC124.out
              clear HC124
              by_cases c145 : t397 = true
              ·subst c145
               have H1 : ((salvorref16_part.f a0_0 a0_1 a0_2 t394 t395 t396 1 4).bind fun bt399 => (some (bt399.1, bt399.2.1, bt399.2.2, false))) = some (r1, r2, r3, r4) := by rw [if_pos rfl] at H; exact H
               clear H
               have H := H1
               clear H1
               replace H := Option.bind_eq_some_iff.mp H
               obtain ⟨⟨t399, t400, t401⟩, A1460, H⟩ := H
               replace H : (some (t399, t400, t401, false)) = some (r1, r2, r3, r4) := H
               have A146 := Aside0.mk A1460
               clear A1460
               simp only [Option.some.injEq, Prod.mk.injEq] at H
               obtain ⟨rfl, rfl, rfl, rfl⟩ := H
               have hnb147 := NB362_363.out
               have hnc147 := NB363_362.out
               have hnb148 := NB362_364.out
               have hnc148 := NB364_362.out
               have hnb149 := NB362_372.out
               have hnc149 := NB372_362.out
               have hnb150 := NB362_381.out
               have hnc150 := NB381_362.out
               have hnb151 := NB362_390.out
               have hnc151 := NB390_362.out
               have hnb152 := NB362_398.out
               have hnc152 := NB398_362.out
               obtain ⟨hcz153_0, hcz153_1, hcz153_2, hfz153_0, hfz153_1, hfz153_2⟩ := c3_ BK362
               have hnb154 := NB398_363.out
               have hnc154 := NB363_398.out
               have hnb155 := NB398_364.out
               have hnc155 := NB364_398.out
               have hnb156 := NB398_372.out
               have hnc156 := NB372_398.out
               have hnb157 := NB398_381.out
               have hnc157 := NB381_398.out
               have hnb158 := NB398_390.out
               have hnc158 := NB390_398.out
               obtain ⟨hcz159_0, hcz159_1, hcz159_2, hfz159_0, hfz159_1, hfz159_2⟩ := c3_ BK398
               go_wp2_with (first | ((with_reducible refine gate_callee (f := 63) rfl ?_); refine gl_ (some 90) rfl rfl Try.func63 (by kernel_rfl) rfl #[.agg #[.int .i64 a0_0, .int .i64 a0_1, .bool a0_2], .agg #[.int .i64 t394, .int .i64 t395, .int .u8 t396], .int .i64 1, .int .i64 4] rfl ?_; (with_reducible refine (salvorref16_part.calls a0_0 a0_1 a0_2 t394 t395 t396 1 4 t399 t400 t401 _ A146.out).mono ?_); rintro e w160 ⟨rfl, hb⟩; refine ⟨_, rfl, ?_⟩; replace BK362 := Aside0.mk (blk_below (g := gb362) (o := .cells #[.int .i64 a0_0, .int .i64 a0_1, .bool a0_2] 23 (0, 0)) (bp_ BK362) hb); replace BK363 := Aside0.mk (blk_below (g := gb363) (o := .cells #[.int .i64 a1_0, .int .i64 a1_1, .int .u8 a1_2, .slice A1_3 l1_3.length c1_3] 26 (0, 0)) (bp_ BK363) hb); replace BK364 := Aside0.mk (blk_below (g := gb364) (o := .cells #[.int .i64 x365000_103, .int .i64 x365001_103, .int .i64 x365002_103] 29 (0, 0)) (bp_ BK364) hb); replace BK372 := Aside0.mk (blk_below (g := gb372) (o := .cells #[.int .i64 t368, .int .i64 t369, .int .u8 t370] 33 (0, 0)) (bp_ BK372) hb); replace BK381 := Aside0.mk (blk_below (g := gb381) (o := .cells #[.int .i64 t377, .int .i64 t378, .int .u8 t379] 33 (0, 0)) (bp_ BK381) hb); replace BK390 := Aside0.mk (blk_below (g := gb390) (o := .cells #[.int .i64 t386, .int .i64 t387, .int .u8 t388] 33 (0, 0)) (bp_ BK390) hb); replace BK398 := Aside0.mk (blk_below (g := gb398) (o := .cells #[.int .i64 t394, .int .i64 t395, .int .u8 t396] 33 (0, 0)) (bp_ BK398) hb); replace HB := bs_ HB hb; (try clear hb); have hnb161 := NB364_363.out; have hnc161 := NB363_364.out; have hnb162 := NB364_372.out; have hnc162 := NB372_364.out; have hnb163 := NB364_381.out; have hnc163 := NB381_364.out; have hnb164 := NB364_390.out; have hnc164 := NB390_364.out; obtain ⟨hcz165_0, hcz165_1, hcz165_2, hfz165_0, hfz165_1, hfz165_2⟩ := c3_ BK364))
               refine bodyPost_ret (results_ct rfl _ _ gb364 29 #[.int .i64 t399, .int .i64 t400, .int .i64 t401] (0, 0) _ rfl (bp_ BK364) Try.underlying29 rfl (by kernel_rfl)) rfl ?_
               exact ⟨by first | rfl | (simp [errW_none, errW_some] <;> rfl) | (simp [*, errW_none, errW_some] <;> rfl), bh_ HB⟩
              ·replace c145 := Bool.eq_false_iff.mpr c145
               subst c145
               have H1 : (salvorref16_next.j6 kj103 a0_0 a0_1 a0_2 a1_0 a1_1 a1_2 l1_3) = some (r1, r2, r3, r4) := by rw [if_neg (show ¬ (false = true) by decide)] at H; exact H
               clear H
               have H := H1
               clear H1
               have H' := Aside0.mk H
               clear H
               go_wp2
               go_meet
               case rel => exact ⟨_, (x365000_103), (x365001_103), (x365002_103), H', ⟨by have := HJ2.out; have := HJ20.out; have := HJ27.out; have := HJ50.out; have := HJ76.out; have := HJ103.out; first | omega | exact Nat.le_refl _⟩, ⟨by (with_reducible repeat (first | refine blk_drewN ?_ _ | refine blk_drew ?_ | refine blk_alloc ?_ _)); refine blk_far ?_ NB362_398.out _; (with_reducible repeat (first | refine blk_drewN ?_ _ | refine blk_drew ?_ | refine blk_alloc ?_ _)); refine blk_far ?_ NB362_398.out _; (with_reducible repeat (first | refine blk_drewN ?_ _ | refine blk_drew ?_ | refine blk_alloc ?_ _)); refine blk_far ?_ NB362_398.out _; (with_reducible repeat (first | refine blk_drewN ?_ _ | refine blk_drew ?_ | refine blk_alloc ?_ _)); exact BK362.out⟩, ⟨by (with_reducible repeat (first | refine blk_drewN ?_ _ | refine blk_drew ?_ | refine blk_alloc ?_ _)); refine blk_far ?_ NB363_398.out _; (with_reducible repeat (first | refine blk_drewN ?_ _ | refine blk_drew ?_ | refine blk_alloc ?_ _)); refine blk_far ?_ NB363_398.out _; (with_reducible repeat (first | refine blk_drewN ?_ _ | refine blk_drew ?_ | refine blk_alloc ?_ _)); refine blk_far ?_ NB363_398.out _; (with_reducible repeat (first | refine blk_drewN ?_ _ | refine blk_drew ?_ | refine blk_alloc ?_ _)); exact BK363.out⟩, ⟨by (with_reducible repeat (first | refine blk_drewN ?_ _ | refine blk_drew ?_ | refine blk_alloc ?_ _)); refine blk_far ?_ NB364_398.out _; (with_reducible repeat (first | refine blk_drewN ?_ _ | refine blk_drew ?_ | refine blk_alloc ?_ _)); refine blk_far ?_ NB364_398.out _; (with_reducible repeat (first | refine blk_drewN ?_ _ | refine blk_drew ?_ | refine blk_alloc ?_ _)); refine blk_far ?_ NB364_398.out _; (with_reducible repeat (first | refine blk_drewN ?_ _ | refine blk_drew ?_ | refine blk_alloc ?_ _)); exact BK364.out⟩, ⟨by (with_reducible repeat (first | refine blk_drewN ?_ _ | refine blk_drew ?_ | refine blk_alloc ?_ _)); refine blk_far ?_ NB372_398.out _; (with_reducible repeat (first | refine blk_drewN ?_ _ | refine blk_drew ?_ | refine blk_alloc ?_ _)); refine blk_far ?_ NB372_398.out _; (with_reducible repeat (first | refine blk_drewN ?_ _ | refine blk_drew ?_ | refine blk_alloc ?_ _)); refine blk_far ?_ NB372_398.out _; (with_reducible repeat (first | refine blk_drewN ?_ _ | refine blk_drew ?_ | refine blk_alloc ?_ _)); exact BK372.out⟩, ⟨by (with_reducible repeat (first | refine blk_drewN ?_ _ | refine blk_drew ?_ | refine blk_alloc ?_ _)); refine blk_far ?_ NB381_398.out _; (with_reducible repeat (first | refine blk_drewN ?_ _ | refine blk_drew ?_ | refine blk_alloc ?_ _)); refine blk_far ?_ NB381_398.out _; (with_reducible repeat (first | refine blk_drewN ?_ _ | refine blk_drew ?_ | refine blk_alloc ?_ _)); refine blk_far ?_ NB381_398.out _; (with_reducible repeat (first | refine blk_drewN ?_ _ | refine blk_drew ?_ | refine blk_alloc ?_ _)); exact BK381.out⟩, ⟨by (with_reducible repeat (first | refine blk_drewN ?_ _ | refine blk_drew ?_ | refine blk_alloc ?_ _)); refine blk_far ?_ NB390_398.out _; (with_reducible repeat (first | refine blk_drewN ?_ _ | refine blk_drew ?_ | refine blk_alloc ?_ _)); refine blk_far ?_ NB390_398.out _; (with_reducible repeat (first | refine blk_drewN ?_ _ | refine blk_drew ?_ | refine blk_alloc ?_ _)); refine blk_far ?_ NB390_398.out _; (with_reducible repeat (first | refine blk_drewN ?_ _ | refine blk_drew ?_ | refine blk_alloc ?_ _)); exact BK390.out⟩, ⟨by (with_reducible repeat (first | refine blk_drewN ?_ _ | refine blk_drew ?_ | refine blk_alloc ?_ _)); refine blk_put (cs := #[.int .i64 t394, .int .i64 t395, .int .u8 0]) ?_ 2 _ rfl; (with_reducible repeat (first | refine blk_drewN ?_ _ | refine blk_drew ?_ | refine blk_alloc ?_ _)); refine blk_put (cs := #[.int .i64 t394, .int .i64 0, .int .u8 0]) ?_ 1 _ rfl; (with_reducible repeat (first | refine blk_drewN ?_ _ | refine blk_drew ?_ | refine blk_alloc ?_ _)); refine blk_put (cs := #[.int .i64 0, .int .i64 0, .int .u8 0]) ?_ 0 _ rfl; (with_reducible repeat (first | refine blk_drewN ?_ _ | refine blk_drew ?_ | refine blk_alloc ?_ _)); exact BK398.out⟩, ⟨bh_ HB⟩⟩
             case rest =>
              clear HC124
              try clear c1
              try clear p2
              try clear c5
              try clear c6
              try clear c8
              try clear c9
              try clear c10
              try clear c11
              try clear c12
              try clear c13
              try clear c14
              try clear c15
              try clear c16
              try clear c52
              try clear c62
              try clear c63
              try clear c86
              try clear c88
              try clear c89
              try clear c90
              try clear c91
              try clear c92
              try clear c94
              try clear c95
              try clear c96
              try clear c97
              try clear c100
              try clear c101
              try clear c102
              try clear c105
              try clear c106
              try clear c107
              try clear c108
              try clear c109
              try clear c111
              try clear c112
              try clear c113
              try clear c114
              try clear c116
              try clear c116b0
              try clear c117
              try clear c118
              try clear c119
              try clear c120
              try clear c121
              try clear c125
              try clear c126
              try clear c127
              try clear c128
              try clear c129
              try clear c131
              try clear c132
              try clear c133
              try clear c134
              try clear c138
              try clear c139
              try clear c140
              try clear c141
              try clear c142
              try clear c143
              try clear c145
              try clear c147
              try clear c148
              try clear c149
              try clear c150
              try clear c151
              try clear c152
              try clear c154
              try clear c155
              try clear c156
              try clear c157
              try clear c158
              try clear c161
              try clear c162
              try clear c163
              try clear c164
              try clear hcz103_0 hcz103_1 hcz103_2
              try clear hcz110_0 hcz110_1 hcz110_2 hcz110_3
              try clear hcz115_0 hcz115_1 hcz115_2
              try clear hcz122_0 hcz122_1 hcz122_2
              try clear hcz130_0 hcz130_1 hcz130_2
              try clear hcz135_0 hcz135_1 hcz135_2 hcz135_3
              try clear hcz144_0 hcz144_1 hcz144_2
              try clear hcz153_0 hcz153_1 hcz153_2
              try clear hcz159_0 hcz159_1 hcz159_2
              try clear hcz165_0 hcz165_1 hcz165_2
              try clear hcz93_0 hcz93_1 hcz93_2
              try clear hcz98_0 hcz98_1 hcz98_2
              try clear hfz103_0 hfz103_1 hfz103_2
              try clear hfz110_0 hfz110_1 hfz110_2 hfz110_3
              try clear hfz115_0 hfz115_1 hfz115_2
              try clear hfz122_0 hfz122_1 hfz122_2
              try clear hfz130_0 hfz130_1 hfz130_2
              try clear hfz135_0 hfz135_1 hfz135_2 hfz135_3
              try clear hfz144_0 hfz144_1 hfz144_2
              try clear hfz153_0 hfz153_1 hfz153_2
              try clear hfz159_0 hfz159_1 hfz159_2
              try clear hfz165_0 hfz165_1 hfz165_2
              try clear hfz93_0 hfz93_1 hfz93_2
              try clear hfz98_0 hfz98_1 hfz98_2
              try clear p2
              obtain ⟨kq, x365000_123, x365001_123, x365002_123, HA, HJ123, BK362, BK363, BK364, BK372, BK381, BK390, BK398, HB⟩ := hcut
              cases kq with
              | zero => exact absurd HA.out (by simp [salvorref16_next.j6])
              | succ kj123 =>
               have H := HA.out
               clear HA
               simp only [salvorref16_next.j6] at H
               replace H := Option.bind_eq_some_iff.mp H
               obtain ⟨t402, A1660, H⟩ := H
               replace H : ((salvorref16_side.f kj123 a0_0 a0_1 a0_2 l1_3 45 t402).bind fun bt403 => (if bt403.2.2.2 = true then (salvorref16_next.j7 kj123 (decide ((wrap64 (a1_1 + 1)) < a0_1)) a0_0 a0_1 a0_2 bt403.1 bt403.2.1 bt403.2.2.1) else (salvorref16_next.j7 kj123 false a0_0 a0_1 a0_2 bt403.1 bt403.2.1 bt403.2.2.1))) = some (r1, r2, r3, r4) := H
               have A166 := Aside0.mk A1660
               clear A1660
               replace H := Option.bind_eq_some_iff.mp H
               obtain ⟨⟨t403, t404, t405, t406⟩, A1670, H⟩ := H
               replace H : (if t406 = true then (salvorref16_next.j7 kj123 (decide ((wrap64 (a1_1 + 1)) < a0_1)) a0_0 a0_1 a0_2 t403 t404 t405) else (salvorref16_next.j7 kj123 false a0_0 a0_1 a0_2 t403 t404 t405)) = some (r1, r2, r3, r4) := H
               have A167 := Aside0.mk A1670
               clear A1670
               have HC168 := Aside0.mk H
               clear H
               try go_wp2
               replace BK362 := Aside0.mk (blk_drew BK362.out)
               replace BK363 := Aside0.mk (blk_drew BK363.out)
               replace BK364 := Aside0.mk (blk_drew BK364.out)
               replace BK372 := Aside0.mk (blk_drew BK372.out)
               replace BK381 := Aside0.mk (blk_drew BK381.out)
               replace BK390 := Aside0.mk (blk_drew BK390.out)
               replace BK398 := Aside0.mk (blk_drew BK398.out)
               replace HB := Aside0.mk (below_drew1 HB.out)
               refine start_ (n := 14) (S := fun w' => w'.cell? ⟨gb362, 0, none⟩ = some (.int .i64 a0_0) ∧ w'.cell? ⟨gb362, 1, none⟩ = some (.int .i64 a0_1) ∧ w'.cell? ⟨gb362, 2, none⟩ = some (.bool a0_2) ∧ w'.cell? ⟨gb363, 0, none⟩ = some (.int .i64 a1_0) ∧ w'.cell? ⟨gb363, 1, none⟩ = some (.int .i64 a1_1) ∧ w'.cell? ⟨gb363, 2, none⟩ = some (.int .u8 a1_2) ∧ w'.cell? ⟨gb363, 3, none⟩ = some (.slice A1_3 l1_3.length c1_3)) (ds := []) #[false, false, false, false, false, false, false, false, false, false, false, false, false, false] (by kernel_rfl) rfl rfl (a3_ (k3_ BK362) (k4_ BK363)) (fun hHeld => ?_); refine with_tabW salvorref16_next.tab17 salvorref16_next.bits17 (fun HT_ HW_ => ?_)
               generalize wc.drew = w169 at BK362 BK363 BK364 BK372 BK381 BK390 BK398 HB hHeld ⊢
               refine pu_ 1 93 (lb_ 14 2) rfl rfl (ao_ HT_) ?_
               refine pu_ 4 96 (lb_ 14 18) rfl rfl (ao_ HT_) ?_
               refine tk_ 0 92 (lb_ 14 19) rfl rfl (take_ofW HT_.out HW_.out (by kernel_rfl)) hHeld ?_
               refine tk_ 2 94 (lb_ 14 23) rfl rfl (take_ofW HT_.out HW_.out (by kernel_rfl)) hHeld ?_
               refine tk_ 3 95 (lb_ 14 31) rfl rfl (take_ofW HT_.out HW_.out (by kernel_rfl)) hHeld ?_
               refine tk_ 5 97 (lb_ 14 63) rfl rfl (take_ofW HT_.out HW_.out (by kernel_rfl)) hHeld ?_
               refine join_ (σ := Nat) 2 #[true, true, true, true, true, true, true, true, true, true, true, true, false, false] (fun s_ => [(98, .int .i64 t402), (99, .tuple #[.agg #[.int .i64 t403, .int .i64 t404, .int .u8 t405], .bool t406]), (14, .pointer (some ⟨s_, 0, none⟩)), (91, .tuple #[.agg #[.int .i64 t403, .int .i64 t404, .int .u8 t405], .bool t406]), (100, .agg #[.int .i64 t403, .int .i64 t404, .int .u8 t405]), (101, .bool t406)]) (fun s_ w' => (w'.cell? ⟨gb362, 0, none⟩ = some (.int .i64 a0_0) ∧ w'.cell? ⟨gb362, 1, none⟩ = some (.int .i64 a0_1) ∧ w'.cell? ⟨gb362, 2, none⟩ = some (.bool a0_2) ∧ w'.cell? ⟨gb363, 0, none⟩ = some (.int .i64 a1_0) ∧ w'.cell? ⟨gb363, 1, none⟩ = some (.int .i64 a1_1) ∧ w'.cell? ⟨gb363, 2, none⟩ = some (.int .u8 a1_2) ∧ w'.cell? ⟨gb363, 3, none⟩ = some (.slice A1_3 l1_3.length c1_3)) ∧ (w'.heap[gb362]? = some (.cells #[.int .i64 a0_0, .int .i64 a0_1, .bool a0_2] 23 (0, 0))) ∧ (w'.heap[gb363]? = some (.cells #[.int .i64 a1_0, .int .i64 a1_1, .int .u8 a1_2, .slice A1_3 l1_3.length c1_3] 26 (0, 0))) ∧ (w'.heap[gb364]? = some (.cells #[.int .i64 x365000_123, .int .i64 x365001_123, .int .i64 x365002_123] 29 (0, 0))) ∧ (w'.heap[gb372]? = some (.cells #[.int .i64 t368, .int .i64 t369, .int .u8 t370] 33 (0, 0))) ∧ (w'.heap[gb381]? = some (.cells #[.int .i64 t377, .int .i64 t378, .int .u8 t379] 33 (0, 0))) ∧ (w'.heap[gb390]? = some (.cells #[.int .i64 t386, .int .i64 t387, .int .u8 t388] 33 (0, 0))) ∧ (w'.heap[gb398]? = some (.cells #[.int .i64 t394, .int .i64 t395, .int .u8 t396] 33 (0, 0))) ∧ (w'.heap[s_]? = some (.cells #[.int .i64 0, .int .i64 0, .int .u8 0] 33 (0, 0))) ∧ (w.heap.size ≤ s_) ∧ (w.heap.size ≤ s_) ∧ (gb362 ≠ s_) ∧ (s_ ≠ gb362) ∧ (gb363 ≠ s_) ∧ (s_ ≠ gb363) ∧ (gb364 ≠ s_) ∧ (s_ ≠ gb364) ∧ (gb372 ≠ s_) ∧ (s_ ≠ gb372) ∧ (gb381 ≠ s_) ∧ (s_ ≠ gb381) ∧ (gb390 ≠ s_) ∧ (s_ ≠ gb390) ∧ (gb398 ≠ s_) ∧ (s_ ≠ gb398) ∧ (Below w.heap.size w w')) ?_ ?_
               rotate_left
               ·intro hCont
                refine two_ (i := 6) (j := 11) (Ni := some 98) (Nj := some 14) #[true, true, true, true, true, true, true, false, false, false, false, false, false, false] #[true, true, true, true, true, true, false, false, false, false, false, true, false, false] rfl rfl rfl rfl (two_of HT_.out (by kernel_rfl)) (by decide) (by decide) (fun K hK => ?_) (fun K hK => ?_)
                ·skip
                 refine gq_ Try.func52 (by kernel_rfl) rfl #[.agg #[.int .i64 a0_0, .int .i64 a0_1, .bool a0_2], .slice A1_3 l1_3.length c1_3] (by rfl) rfl rfl ?_
                 with_reducible refine (salvorref16_begin.calls kj123 a0_0 a0_1 a0_2 _ _ l1_3 t402 _ ?side1 ?side2 A166.out).mono ?_
                 (case side1 => exact cb_ HR1_3 HB)
                 (case side2 => exact HC1_3.out)
                 rintro e w170 ⟨rfl, hb⟩
                 refine ⟨_, rfl, ?_⟩
                 replace BK362 := bb_ BK362 hb
                 replace BK363 := bb_ BK363 hb
                 replace BK364 := bb_ BK364 hb
                 replace BK372 := bb_ BK372 hb
                 replace BK381 := bb_ BK381 hb
                 replace BK390 := bb_ BK390 hb
                 replace BK398 := bb_ BK398 hb
                 replace HB := bs_ HB hb
                 (try clear hb)
                 refine hK.out _ _ (a3_ (k3_ BK362) (k4_ BK363)) (fun hHeld => ?_)
                 clear hK K
                 refine nm_ 98 ?_
                 refine two_ (i := 7) (j := 11) (Ni := some 99) (Nj := some 14) #[true, true, true, true, true, true, true, true, false, false, false, false, false, false] #[true, true, true, true, true, true, true, false, false, false, false, true, false, false] rfl rfl rfl rfl (two_of HT_.out (by kernel_rfl)) (by decide) (by decide) (fun K hK => ?_) (fun K hK => ?_)
                 ·skip
                  refine gq_ Try.func62 (by kernel_rfl) rfl #[.agg #[.int .i64 a0_0, .int .i64 a0_1, .bool a0_2], .slice A1_3 l1_3.length c1_3, .int .u8 45, .int .i64 t402] (by rfl) rfl rfl ?_
                  with_reducible refine (salvorref16_side.calls kj123 a0_0 a0_1 a0_2 _ _ l1_3 45 t402 t403 t404 t405 t406 _ ?side1 ?side2 A167.out).mono ?_
                  (case side1 => exact cb_ HR1_3 HB)
                  (case side2 => exact HC1_3.out)
                  rintro e w171 ⟨rfl, hb⟩
                  refine ⟨_, rfl, ?_⟩
                  replace BK362 := bb_ BK362 hb
                  replace BK363 := bb_ BK363 hb
                  replace BK364 := bb_ BK364 hb
                  replace BK372 := bb_ BK372 hb
                  replace BK381 := bb_ BK381 hb
                  replace BK390 := bb_ BK390 hb
                  replace BK398 := bb_ BK398 hb
                  replace HB := bs_ HB hb
                  (try clear hb)
                  refine hK.out _ _ (a3_ (k3_ BK362) (k4_ BK363)) (fun hHeld => ?_)
                  clear hK K
                  refine nm_ 99 ?_
                  refine pu_ 8 91 (lb_ 14 511) rfl rfl (ao_ HT_) ?_
                  refine pu_ 9 100 (lb_ 14 1023) rfl rfl (ao_ HT_) ?_
                  refine pu_ 10 101 (lb_ 14 2047) rfl rfl (ao_ HT_) ?_
                  refine one_ (i := 11) (N := some 14) #[true, true, true, true, true, true, true, true, true, true, true, true, false, false] rfl rfl (one_of HT_.out (by kernel_rfl)) (by decide) (fun K hK => ?_)
                  refine box_step ?hg (N := 14) ?hd (cs := #[.int .i64 0, .int .i64 0, .int .u8 0]) (t := 33) ?hr ?_; (case hd => rfl); (case hg => rfl); (case hr => first | (go_simp; done) | (go_simp; rfl))
                  intro gb407 hg w172 hbox hb
                  have BK407 := Aside0.mk hbox
                  have GW407 := bg_ HB hg
                  have GE407 := bg_ HB hg
                  have NB362_407 := bn_ BK362 hg
                  have NB407_362 := bm_ BK362 hg
                  have NB363_407 := bn_ BK363 hg
                  have NB407_363 := bm_ BK363 hg
                  have NB364_407 := bn_ BK364 hg
                  have NB407_364 := bm_ BK364 hg
                  have NB372_407 := bn_ BK372 hg
                  have NB407_372 := bm_ BK372 hg
                  have NB381_407 := bn_ BK381 hg
                  have NB407_381 := bm_ BK381 hg
                  have NB390_407 := bn_ BK390 hg
                  have NB407_390 := bm_ BK390 hg
                  have NB398_407 := bn_ BK398 hg
                  have NB407_398 := bm_ BK398 hg
                  replace BK362 := bb_ BK362 hb
                  replace BK363 := bb_ BK363 hb
                  replace BK364 := bb_ BK364 hb
                  replace BK372 := bb_ BK372 hb
                  replace BK381 := bb_ BK381 hb
                  replace BK390 := bb_ BK390 hb
                  replace BK398 := bb_ BK398 hb
                  replace HB := bs_ HB hb
                  clear hb hbox hg
                  refine hK.out _ _ (a3_ (k3_ BK362) (k4_ BK363)) (fun hHeld => ?_)
                  clear hK K
                  refine nm_ 14 ?_
                  exact norm_ (by simp only [putAll, Act.put, List.setIfInBounds_toArray, List.set_cons_zero, List.set_cons_succ]) (hCont (gb407) _ ⟨hHeld, (bq_ BK362), (bq_ BK363), (bq_ BK364), (bq_ BK372), (bq_ BK381), (bq_ BK390), (bq_ BK398), (bq_ BK407), GW407.out, GE407.out, NB362_407.out, NB407_362.out, NB363_407.out, NB407_363.out, NB364_407.out, NB407_364.out, NB372_407.out, NB407_372.out, NB381_407.out, NB407_381.out, NB390_407.out, NB407_390.out, NB398_407.out, NB407_398.out, (bh_ HB)⟩)
                 ·skip
                  refine box_step ?hg (N := 14) ?hd (cs := #[.int .i64 0, .int .i64 0, .int .u8 0]) (t := 33) ?hr ?_; (case hd => rfl); (case hg => rfl); (case hr => first | (go_simp; done) | (go_simp; rfl))
                  intro gb407 hg w171 hbox hb
                  have BK407 := Aside0.mk hbox
                  have GW407 := bg_ HB hg
                  have GE407 := bg_ HB hg
                  have NB362_407 := bn_ BK362 hg
                  have NB407_362 := bm_ BK362 hg
                  have NB363_407 := bn_ BK363 hg
                  have NB407_363 := bm_ BK363 hg
                  have NB364_407 := bn_ BK364 hg
                  have NB407_364 := bm_ BK364 hg
                  have NB372_407 := bn_ BK372 hg
                  have NB407_372 := bm_ BK372 hg
                  have NB381_407 := bn_ BK381 hg
                  have NB407_381 := bm_ BK381 hg
                  have NB390_407 := bn_ BK390 hg
                  have NB407_390 := bm_ BK390 hg
                  have NB398_407 := bn_ BK398 hg
                  have NB407_398 := bm_ BK398 hg
                  replace BK362 := bb_ BK362 hb
                  replace BK363 := bb_ BK363 hb
                  replace BK364 := bb_ BK364 hb
                  replace BK372 := bb_ BK372 hb
                  replace BK381 := bb_ BK381 hb
                  replace BK390 := bb_ BK390 hb
                  replace BK398 := bb_ BK398 hb
                  replace HB := bs_ HB hb
                  clear hb hbox hg
                  refine hK.out _ _ (a3_ (k3_ BK362) (k4_ BK363)) (fun hHeld => ?_)
                  clear hK K
                  refine nm_ 14 ?_
                  refine one_ (i := 7) (N := some 99) #[true, true, true, true, true, true, true, true, false, false, false, true, false, false] rfl rfl (one_of HT_.out (by kernel_rfl)) (by decide) (fun K hK => ?_)
                  refine gq_ Try.func62 (by kernel_rfl) rfl #[.agg #[.int .i64 a0_0, .int .i64 a0_1, .bool a0_2], .slice A1_3 l1_3.length c1_3, .int .u8 45, .int .i64 t402] (by rfl) rfl rfl ?_
                  with_reducible refine (salvorref16_side.calls kj123 a0_0 a0_1 a0_2 _ _ l1_3 45 t402 t403 t404 t405 t406 _ ?side1 ?side2 A167.out).mono ?_
                  (case side1 => exact cb_ HR1_3 HB)
                  (case side2 => exact HC1_3.out)
                  rintro e w172 ⟨rfl, hb⟩
                  refine ⟨_, rfl, ?_⟩
                  replace BK362 := bb_ BK362 hb
                  replace BK363 := bb_ BK363 hb
                  replace BK364 := bb_ BK364 hb
                  replace BK372 := bb_ BK372 hb
                  replace BK381 := bb_ BK381 hb
                  replace BK390 := bb_ BK390 hb
                  replace BK398 := bb_ BK398 hb
                  replace BK407 := bb_ BK407 hb
                  replace HB := bs_ HB hb
                  (try clear hb)
                  refine hK.out _ _ (a3_ (k3_ BK362) (k4_ BK363)) (fun hHeld => ?_)
                  clear hK K
                  refine nm_ 99 ?_
                  refine pu_ 8 91 (lb_ 14 2559) rfl rfl (ao_ HT_) ?_
                  refine pu_ 9 100 (lb_ 14 3071) rfl rfl (ao_ HT_) ?_
                  refine pu_ 10 101 (lb_ 14 4095) rfl rfl (ao_ HT_) ?_
                  exact norm_ (by simp only [putAll, Act.put, List.setIfInBounds_toArray, List.set_cons_zero, List.set_cons_succ]) (hCont (gb407) _ ⟨hHeld, (bq_ BK362), (bq_ BK363), (bq_ BK364), (bq_ BK372), (bq_ BK381), (bq_ BK390), (bq_ BK398), (bq_ BK407), GW407.out, GE407.out, NB362_407.out, NB407_362.out, NB363_407.out, NB407_363.out, NB364_407.out, NB407_364.out, NB372_407.out, NB407_372.out, NB381_407.out, NB407_381.out, NB390_407.out, NB407_390.out, NB398_407.out, NB407_398.out, (bh_ HB)⟩)
                ·skip
                 refine box_step ?hg (N := 14) ?hd (cs := #[.int .i64 0, .int .i64 0, .int .u8 0]) (t := 33) ?hr ?_; (case hd => rfl); (case hg => rfl); (case hr => first | (go_simp; done) | (go_simp; rfl))
                 intro gb407 hg w170 hbox hb
                 have BK407 := Aside0.mk hbox
                 have GW407 := bg_ HB hg
                 have GE407 := bg_ HB hg
                 have NB362_407 := bn_ BK362 hg
                 have NB407_362 := bm_ BK362 hg
                 have NB363_407 := bn_ BK363 hg
                 have NB407_363 := bm_ BK363 hg
                 have NB364_407 := bn_ BK364 hg
                 have NB407_364 := bm_ BK364 hg
                 have NB372_407 := bn_ BK372 hg
                 have NB407_372 := bm_ BK372 hg
                 have NB381_407 := bn_ BK381 hg
                 have NB407_381 := bm_ BK381 hg
                 have NB390_407 := bn_ BK390 hg
                 have NB407_390 := bm_ BK390 hg
                 have NB398_407 := bn_ BK398 hg
                 have NB407_398 := bm_ BK398 hg
                 replace BK362 := bb_ BK362 hb
                 replace BK363 := bb_ BK363 hb
                 replace BK364 := bb_ BK364 hb
                 replace BK372 := bb_ BK372 hb
                 replace BK381 := bb_ BK381 hb
                 replace BK390 := bb_ BK390 hb
                 replace BK398 := bb_ BK398 hb
                 replace HB := bs_ HB hb
                 clear hb hbox hg
                 refine hK.out _ _ (a3_ (k3_ BK362) (k4_ BK363)) (fun hHeld => ?_)
                 clear hK K
                 refine nm_ 14 ?_
                 refine one_ (i := 6) (N := some 98) #[true, true, true, true, true, true, true, false, false, false, false, true, false, false] rfl rfl (one_of HT_.out (by kernel_rfl)) (by decide) (fun K hK => ?_)
                 refine gq_ Try.func52 (by kernel_rfl) rfl #[.agg #[.int .i64 a0_0, .int .i64 a0_1, .bool a0_2], .slice A1_3 l1_3.length c1_3] (by rfl) rfl rfl ?_
                 with_reducible refine (salvorref16_begin.calls kj123 a0_0 a0_1 a0_2 _ _ l1_3 t402 _ ?side1 ?side2 A166.out).mono ?_
                 (case side1 => exact cb_ HR1_3 HB)
                 (case side2 => exact HC1_3.out)
                 rintro e w171 ⟨rfl, hb⟩
                 refine ⟨_, rfl, ?_⟩
                 replace BK362 := bb_ BK362 hb
                 replace BK363 := bb_ BK363 hb
                 replace BK364 := bb_ BK364 hb
                 replace BK372 := bb_ BK372 hb
                 replace BK381 := bb_ BK381 hb
                 replace BK390 := bb_ BK390 hb
                 replace BK398 := bb_ BK398 hb
                 replace BK407 := bb_ BK407 hb
                 replace HB := bs_ HB hb
                 (try clear hb)
                 refine hK.out _ _ (a3_ (k3_ BK362) (k4_ BK363)) (fun hHeld => ?_)
                 clear hK K
                 refine nm_ 98 ?_
                 refine one_ (i := 7) (N := some 99) #[true, true, true, true, true, true, true, true, false, false, false, true, false, false] rfl rfl (one_of HT_.out (by kernel_rfl)) (by decide) (fun K hK => ?_)
                 refine gq_ Try.func62 (by kernel_rfl) rfl #[.agg #[.int .i64 a0_0, .int .i64 a0_1, .bool a0_2], .slice A1_3 l1_3.length c1_3, .int .u8 45, .int .i64 t402] (by rfl) rfl rfl ?_
                 with_reducible refine (salvorref16_side.calls kj123 a0_0 a0_1 a0_2 _ _ l1_3 45 t402 t403 t404 t405 t406 _ ?side1 ?side2 A167.out).mono ?_
                 (case side1 => exact cb_ HR1_3 HB)
                 (case side2 => exact HC1_3.out)
                 rintro e w172 ⟨rfl, hb⟩
                 refine ⟨_, rfl, ?_⟩
                 replace BK362 := bb_ BK362 hb
                 replace BK363 := bb_ BK363 hb
                 replace BK364 := bb_ BK364 hb
                 replace BK372 := bb_ BK372 hb
                 replace BK381 := bb_ BK381 hb
                 replace BK390 := bb_ BK390 hb
                 replace BK398 := bb_ BK398 hb
                 replace BK407 := bb_ BK407 hb
                 replace HB := bs_ HB hb
                 (try clear hb)
                 refine hK.out _ _ (a3_ (k3_ BK362) (k4_ BK363)) (fun hHeld => ?_)
                 clear hK K
                 refine nm_ 99 ?_
                 refine pu_ 8 91 (lb_ 14 2559) rfl rfl (ao_ HT_) ?_
                 refine pu_ 9 100 (lb_ 14 3071) rfl rfl (ao_ HT_) ?_
                 refine pu_ 10 101 (lb_ 14 4095) rfl rfl (ao_ HT_) ?_
                 exact norm_ (by simp only [putAll, Act.put, List.setIfInBounds_toArray, List.set_cons_zero, List.set_cons_succ]) (hCont (gb407) _ ⟨hHeld, (bq_ BK362), (bq_ BK363), (bq_ BK364), (bq_ BK372), (bq_ BK381), (bq_ BK390), (bq_ BK398), (bq_ BK407), GW407.out, GE407.out, NB362_407.out, NB407_362.out, NB363_407.out, NB407_363.out, NB364_407.out, NB407_364.out, NB372_407.out, NB407_372.out, NB381_407.out, NB407_381.out, NB390_407.out, NB407_390.out, NB398_407.out, NB407_398.out, (bh_ HB)⟩)
               rintro gb407 w173 ⟨hS_, h0_, h1_, h2_, h3_, h4_, h5_, h6_, h7_, h8_, h9_, h10_, h11_, h12_, h13_, h14_, h15_, h16_, h17_, h18_, h19_, h20_, h21_, h22_, h23_, h24_⟩
               have n0_ : Aside0 (w173.heap[gb362]? = some (.cells #[.int .i64 a0_0, .int .i64 a0_1, .bool a0_2] 23 (0, 0))) := ⟨h0_⟩
               have n1_ : Aside0 (w173.heap[gb363]? = some (.cells #[.int .i64 a1_0, .int .i64 a1_1, .int .u8 a1_2, .slice A1_3 l1_3.length c1_3] 26 (0, 0))) := ⟨h1_⟩
               have n2_ : Aside0 (w173.heap[gb364]? = some (.cells #[.int .i64 x365000_123, .int .i64 x365001_123, .int .i64 x365002_123] 29 (0, 0))) := ⟨h2_⟩
               have n3_ : Aside0 (w173.heap[gb372]? = some (.cells #[.int .i64 t368, .int .i64 t369, .int .u8 t370] 33 (0, 0))) := ⟨h3_⟩
               have n4_ : Aside0 (w173.heap[gb381]? = some (.cells #[.int .i64 t377, .int .i64 t378, .int .u8 t379] 33 (0, 0))) := ⟨h4_⟩
               have n5_ : Aside0 (w173.heap[gb390]? = some (.cells #[.int .i64 t386, .int .i64 t387, .int .u8 t388] 33 (0, 0))) := ⟨h5_⟩
               have n6_ : Aside0 (w173.heap[gb398]? = some (.cells #[.int .i64 t394, .int .i64 t395, .int .u8 t396] 33 (0, 0))) := ⟨h6_⟩
               have n7_ : Aside0 (w173.heap[gb407]? = some (.cells #[.int .i64 0, .int .i64 0, .int .u8 0] 33 (0, 0))) := ⟨h7_⟩
               have n8_ : Aside0 (w.heap.size ≤ gb407) := ⟨h8_⟩
               have n9_ : Aside0 (w.heap.size ≤ gb407) := ⟨h9_⟩
               have n10_ : Aside0 (gb362 ≠ gb407) := ⟨h10_⟩
               have n11_ : Aside0 (gb407 ≠ gb362) := ⟨h11_⟩
               have n12_ : Aside0 (gb363 ≠ gb407) := ⟨h12_⟩
               have n13_ : Aside0 (gb407 ≠ gb363) := ⟨h13_⟩
               have n14_ : Aside0 (gb364 ≠ gb407) := ⟨h14_⟩
               have n15_ : Aside0 (gb407 ≠ gb364) := ⟨h15_⟩
               have n16_ : Aside0 (gb372 ≠ gb407) := ⟨h16_⟩
               have n17_ : Aside0 (gb407 ≠ gb372) := ⟨h17_⟩
               have n18_ : Aside0 (gb381 ≠ gb407) := ⟨h18_⟩
               have n19_ : Aside0 (gb407 ≠ gb381) := ⟨h19_⟩
               have n20_ : Aside0 (gb390 ≠ gb407) := ⟨h20_⟩
               have n21_ : Aside0 (gb407 ≠ gb390) := ⟨h21_⟩
               have n22_ : Aside0 (gb398 ≠ gb407) := ⟨h22_⟩
               have n23_ : Aside0 (gb407 ≠ gb398) := ⟨h23_⟩
               have n24_ : Aside0 (Below w.heap.size w w173) := ⟨h24_⟩
               clear BK362
               clear BK363
               clear BK364
               clear BK372
               clear BK381
               clear BK390
               clear BK398
               clear HB
               clear h0_ h1_ h2_ h3_ h4_ h5_ h6_ h7_ h8_ h9_ h10_ h11_ h12_ h13_ h14_ h15_ h16_ h17_ h18_ h19_ h20_ h21_ h22_ h23_ h24_
               have BK362 := n0_
               have BK363 := n1_
               have BK364 := n2_
               have BK372 := n3_
               have BK381 := n4_
               have BK390 := n5_
               have BK398 := n6_
               have BK407 := n7_
               have GW407 := n8_
               have GE407 := n9_
               have NB362_407 := n10_
               have NB407_362 := n11_
               have NB363_407 := n12_
               have NB407_363 := n13_
               have NB364_407 := n14_
               have NB407_364 := n15_
               have NB372_407 := n16_
               have NB407_372 := n17_
               have NB381_407 := n18_
               have NB407_381 := n19_
               have NB390_407 := n20_
               have NB407_390 := n21_
               have NB398_407 := n22_
               have NB407_398 := n23_
               have HB := n24_
               clear n0_ n1_ n2_ n3_ n4_ n5_ n6_ n7_ n8_ n9_ n10_ n11_ n12_ n13_ n14_ n15_ n16_ n17_ n18_ n19_ n20_ n21_ n22_ n23_ n24_
               have hHeld : w173.cell? ⟨gb362, 0, none⟩ = some (.int .i64 a0_0) ∧ w173.cell? ⟨gb362, 1, none⟩ = some (.int .i64 a0_1) ∧ w173.cell? ⟨gb362, 2, none⟩ = some (.bool a0_2) ∧ w173.cell? ⟨gb363, 0, none⟩ = some (.int .i64 a1_0) ∧ w173.cell? ⟨gb363, 1, none⟩ = some (.int .i64 a1_1) ∧ w173.cell? ⟨gb363, 2, none⟩ = some (.int .u8 a1_2) ∧ w173.cell? ⟨gb363, 3, none⟩ = some (.slice A1_3 l1_3.length c1_3) := hS_
               refine norm_ (a' := ?_) ?_ ?_
               rotate_left
               ·simp only [putAll, Act.put, List.setIfInBounds_toArray, List.set_cons_zero, List.set_cons_succ]
                rfl
               refine one_ (i := 12) (N := none) #[true, true, true, true, true, true, true, true, true, true, true, true, true, false] rfl rfl (one_of HT_.out (by kernel_rfl)) (by decide) (fun K hK => ?_)
               have hs174 : w173.cell? ⟨gb407, 0, none⟩ = some (.int .i64 0) := (blk_cell BK407.out 0).trans rfl
               have hfs174 := blk_frozen BK407.out 0
               have hns174_0 := NB362_407.out
               have hns174_1 := NB363_407.out
               have hns174_2 := NB364_407.out
               have hns174_3 := NB372_407.out
               have hns174_4 := NB381_407.out
               have hns174_5 := NB390_407.out
               have hns174_6 := NB398_407.out
               have hms174_0 := NB407_362.out
               have hms174_1 := NB407_363.out
               have hms174_2 := NB407_364.out
               have hms174_3 := NB407_372.out
               have hms174_4 := NB407_381.out
               have hms174_5 := NB407_390.out
               have hms174_6 := NB407_398.out
               have hs175 : w173.cell? ⟨gb407, 1, none⟩ = some (.int .i64 0) := (blk_cell BK407.out 1).trans rfl
               have hfs175 := blk_frozen BK407.out 1
               have hns175_0 := NB362_407.out
               have hns175_1 := NB363_407.out
               have hns175_2 := NB364_407.out
               have hns175_3 := NB372_407.out
               have hns175_4 := NB381_407.out
               have hns175_5 := NB390_407.out
               have hns175_6 := NB398_407.out
               have hms175_0 := NB407_362.out
               have hms175_1 := NB407_363.out
               have hms175_2 := NB407_364.out
               have hms175_3 := NB407_372.out
               have hms175_4 := NB407_381.out
               have hms175_5 := NB407_390.out
               have hms175_6 := NB407_398.out
               have hs176 : w173.cell? ⟨gb407, 2, none⟩ = some (.int .u8 0) := (blk_cell BK407.out 2).trans rfl
               have hfs176 := blk_frozen BK407.out 2
               have hns176_0 := NB362_407.out
               have hns176_1 := NB363_407.out
               have hns176_2 := NB364_407.out
               have hns176_3 := NB372_407.out
               have hns176_4 := NB381_407.out
               have hns176_5 := NB390_407.out
               have hns176_6 := NB398_407.out
               have hms176_0 := NB407_362.out
               have hms176_1 := NB407_363.out
               have hms176_2 := NB407_364.out
               have hms176_3 := NB407_372.out
               have hms176_4 := NB407_381.out
               have hms176_5 := NB407_390.out
               have hms176_6 := NB407_398.out
               refine skip_ (w1 := ?_) (by rfl) rfl ?_ ?_
               rotate_left
               ·go_simp
                rfl
               refine hK.out _ _ ⟨(cf_ NB362_407 ((cf_ NB362_407 ((cf_ NB362_407 (hHeld.1)))))), (cf_ NB362_407 ((cf_ NB362_407 ((cf_ NB362_407 (hHeld.2.1)))))), (cf_ NB362_407 ((cf_ NB362_407 ((cf_ NB362_407 (hHeld.2.2.1)))))), (cf_ NB363_407 ((cf_ NB363_407 ((cf_ NB363_407 (hHeld.2.2.2.1)))))), (cf_ NB363_407 ((cf_ NB363_407 ((cf_ NB363_407 (hHeld.2.2.2.2.1)))))), (cf_ NB363_407 ((cf_ NB363_407 ((cf_ NB363_407 (hHeld.2.2.2.2.2.1)))))), (cf_ NB363_407 ((cf_ NB363_407 ((cf_ NB363_407 (hHeld.2.2.2.2.2.2))))))⟩ (fun hHeld => ?_)
               clear hK K
               refine pu_ 13 15 (lb_ 14 16383) rfl rfl (ao_ HT_) ?_
               refine done_ (done_of HT_.out (by kernel_rfl)) ?_
               go_upto_region 18 with (fail)
               go_cut [110] (fun v110 wc => ∃ (kq : Nat) (x110_167 : Bool), v110 = .bool x110_167 ∧ Aside0 (salvorref16_next.j7 kq x110_167 a0_0 a0_1 a0_2 t403 t404 t405 = some (r1, r2, r3, r4)) ∧ Aside0 (kq ≤ kj123) ∧ Aside0 (wc.heap[gb362]? = some (.cells #[.int .i64 a0_0, .int .i64 a0_1, .bool a0_2] 23 (0, 0))) ∧ Aside0 (wc.heap[gb363]? = some (.cells #[.int .i64 a1_0, .int .i64 a1_1, .int .u8 a1_2, (.slice A1_3 l1_3.length c1_3)] 26 (0, 0))) ∧ Aside0 (wc.heap[gb364]? = some (.cells #[.int .i64 x365000_123, .int .i64 x365001_123, .int .i64 x365002_123] 29 (0, 0))) ∧ Aside0 (wc.heap[gb372]? = some (.cells #[.int .i64 t368, .int .i64 t369, .int .u8 t370] 33 (0, 0))) ∧ Aside0 (wc.heap[gb381]? = some (.cells #[.int .i64 t377, .int .i64 t378, .int .u8 t379] 33 (0, 0))) ∧ Aside0 (wc.heap[gb390]? = some (.cells #[.int .i64 t386, .int .i64 t387, .int .u8 t388] 33 (0, 0))) ∧ Aside0 (wc.heap[gb398]? = some (.cells #[.int .i64 t394, .int .i64 t395, .int .u8 t396] 33 (0, 0))) ∧ Aside0 (wc.heap[gb407]? = some (.cells #[.int .i64 t403, .int .i64 t404, .int .u8 t405] 33 (0, 0))) ∧ Aside0 (Below w.heap.size w wc))
               case first =>
                have H := HC168.out
                clear HC168
                by_cases c177 : t406 = true
                ·subst c177
                 have H1 : (salvorref16_next.j7 kj123 (decide ((wrap64 (a1_1 + 1)) < a0_1)) a0_0 a0_1 a0_2 t403 t404 t405) = some (r1, r2, r3, r4) := by rw [if_pos rfl] at H; exact H
                 clear H
                 have H := H1
                 clear H1
                 have H' := Aside0.mk H
                 clear H
                 have hnb178 := NB363_362.out
                 have hnc178 := NB362_363.out
                 have hnb179 := NB363_364.out
                 have hnc179 := NB364_363.out
                 have hnb180 := NB363_372.out
                 have hnc180 := NB372_363.out
                 have hnb181 := NB363_381.out
                 have hnc181 := NB381_363.out
                 have hnb182 := NB363_390.out
                 have hnc182 := NB390_363.out
                 have hnb183 := NB363_398.out
                 have hnc183 := NB398_363.out
                 have hnb184 := NB363_407.out
                 have hnc184 := NB407_363.out
                 obtain ⟨hcz185_0, hcz185_1, hcz185_2, hcz185_3, hfz185_0, hfz185_1, hfz185_2, hfz185_3⟩ := c4_ BK363
                 have hnb186 := NB362_364.out
                 have hnc186 := NB364_362.out
                 have hnb187 := NB362_372.out
                 have hnc187 := NB372_362.out
                 have hnb188 := NB362_381.out
                 have hnc188 := NB381_362.out
                 have hnb189 := NB362_390.out
                 have hnc189 := NB390_362.out
                 have hnb190 := NB362_398.out
                 have hnc190 := NB398_362.out
                 have hnb191 := NB362_407.out
                 have hnc191 := NB407_362.out
                 obtain ⟨hcz192_0, hcz192_1, hcz192_2, hfz192_0, hfz192_1, hfz192_2⟩ := c3_ BK362
                 go_wp2
                 go_meet
                 case rel => exact ⟨_, (decide ((wrap64 (a1_1 + 1)) < a0_1)), (by first | rfl | (simp; done) | (simp [*]; done)), H', ⟨by have := HJ2.out; have := HJ20.out; have := HJ27.out; have := HJ50.out; have := HJ76.out; have := HJ103.out; have := HJ123.out; first | omega | exact Nat.le_refl _⟩, ⟨by (with_reducible repeat (first | refine blk_drewN ?_ _ | refine blk_drew ?_ | refine blk_alloc ?_ _)); refine blk_far ?_ NB362_407.out _; (with_reducible repeat (first | refine blk_drewN ?_ _ | refine blk_drew ?_ | refine blk_alloc ?_ _)); refine blk_far ?_ NB362_407.out _; (with_reducible repeat (first | refine blk_drewN ?_ _ | refine blk_drew ?_ | refine blk_alloc ?_ _)); refine blk_far ?_ NB362_407.out _; (with_reducible repeat (first | refine blk_drewN ?_ _ | refine blk_drew ?_ | refine blk_alloc ?_ _)); exact BK362.out⟩, ⟨by (with_reducible repeat (first | refine blk_drewN ?_ _ | refine blk_drew ?_ | refine blk_alloc ?_ _)); refine blk_far ?_ NB363_407.out _; (with_reducible repeat (first | refine blk_drewN ?_ _ | refine blk_drew ?_ | refine blk_alloc ?_ _)); refine blk_far ?_ NB363_407.out _; (with_reducible repeat (first | refine blk_drewN ?_ _ | refine blk_drew ?_ | refine blk_alloc ?_ _)); refine blk_far ?_ NB363_407.out _; (with_reducible repeat (first | refine blk_drewN ?_ _ | refine blk_drew ?_ | refine blk_alloc ?_ _)); exact BK363.out⟩, ⟨by (with_reducible repeat (first | refine blk_drewN ?_ _ | refine blk_drew ?_ | refine blk_alloc ?_ _)); refine blk_far ?_ NB364_407.out _; (with_reducible repeat (first | refine blk_drewN ?_ _ | refine blk_drew ?_ | refine blk_alloc ?_ _)); refine blk_far ?_ NB364_407.out _; (with_reducible repeat (first | refine blk_drewN ?_ _ | refine blk_drew ?_ | refine blk_alloc ?_ _)); refine blk_far ?_ NB364_407.out _; (with_reducible repeat (first | refine blk_drewN ?_ _ | refine blk_drew ?_ | refine blk_alloc ?_ _)); exact BK364.out⟩, ⟨by (with_reducible repeat (first | refine blk_drewN ?_ _ | refine blk_drew ?_ | refine blk_alloc ?_ _)); refine blk_far ?_ NB372_407.out _; (with_reducible repeat (first | refine blk_drewN ?_ _ | refine blk_drew ?_ | refine blk_alloc ?_ _)); refine blk_far ?_ NB372_407.out _; (with_reducible repeat (first | refine blk_drewN ?_ _ | refine blk_drew ?_ | refine blk_alloc ?_ _)); refine blk_far ?_ NB372_407.out _; (with_reducible repeat (first | refine blk_drewN ?_ _ | refine blk_drew ?_ | refine blk_alloc ?_ _)); exact BK372.out⟩, ⟨by (with_reducible repeat (first | refine blk_drewN ?_ _ | refine blk_drew ?_ | refine blk_alloc ?_ _)); refine blk_far ?_ NB381_407.out _; (with_reducible repeat (first | refine blk_drewN ?_ _ | refine blk_drew ?_ | refine blk_alloc ?_ _)); refine blk_far ?_ NB381_407.out _; (with_reducible repeat (first | refine blk_drewN ?_ _ | refine blk_drew ?_ | refine blk_alloc ?_ _)); refine blk_far ?_ NB381_407.out _; (with_reducible repeat (first | refine blk_drewN ?_ _ | refine blk_drew ?_ | refine blk_alloc ?_ _)); exact BK381.out⟩, ⟨by (with_reducible repeat (first | refine blk_drewN ?_ _ | refine blk_drew ?_ | refine blk_alloc ?_ _)); refine blk_far ?_ NB390_407.out _; (with_reducible repeat (first | refine blk_drewN ?_ _ | refine blk_drew ?_ | refine blk_alloc ?_ _)); refine blk_far ?_ NB390_407.out _; (with_reducible repeat (first | refine blk_drewN ?_ _ | refine blk_drew ?_ | refine blk_alloc ?_ _)); refine blk_far ?_ NB390_407.out _; (with_reducible repeat (first | refine blk_drewN ?_ _ | refine blk_drew ?_ | refine blk_alloc ?_ _)); exact BK390.out⟩, ⟨by (with_reducible repeat (first | refine blk_drewN ?_ _ | refine blk_drew ?_ | refine blk_alloc ?_ _)); refine blk_far ?_ NB398_407.out _; (with_reducible repeat (first | refine blk_drewN ?_ _ | refine blk_drew ?_ | refine blk_alloc ?_ _)); refine blk_far ?_ NB398_407.out _; (with_reducible repeat (first | refine blk_drewN ?_ _ | refine blk_drew ?_ | refine blk_alloc ?_ _)); refine blk_far ?_ NB398_407.out _; (with_reducible repeat (first | refine blk_drewN ?_ _ | refine blk_drew ?_ | refine blk_alloc ?_ _)); exact BK398.out⟩, ⟨by (with_reducible repeat (first | refine blk_drewN ?_ _ | refine blk_drew ?_ | refine blk_alloc ?_ _)); refine blk_put (cs := #[.int .i64 t403, .int .i64 t404, .int .u8 0]) ?_ 2 _ rfl; (with_reducible repeat (first | refine blk_drewN ?_ _ | refine blk_drew ?_ | refine blk_alloc ?_ _)); refine blk_put (cs := #[.int .i64 t403, .int .i64 0, .int .u8 0]) ?_ 1 _ rfl; (with_reducible repeat (first | refine blk_drewN ?_ _ | refine blk_drew ?_ | refine blk_alloc ?_ _)); refine blk_put (cs := #[.int .i64 0, .int .i64 0, .int .u8 0]) ?_ 0 _ rfl; (with_reducible repeat (first | refine blk_drewN ?_ _ | refine blk_drew ?_ | refine blk_alloc ?_ _)); exact BK407.out⟩, ⟨bh_ HB⟩⟩
                ·replace c177 := Bool.eq_false_iff.mpr c177
                 subst c177
                 have H1 : (salvorref16_next.j7 kj123 false a0_0 a0_1 a0_2 t403 t404 t405) = some (r1, r2, r3, r4) := by rw [if_neg (show ¬ (false = true) by decide)] at H; exact H
                 clear H
                 have H := H1
                 clear H1
                 have H' := Aside0.mk H
                 clear H
                 go_wp2
                 go_meet
                 case rel => exact ⟨_, (false), (by first | rfl | (simp; done) | (simp [*]; done)), H', ⟨by have := HJ2.out; have := HJ20.out; have := HJ27.out; have := HJ50.out; have := HJ76.out; have := HJ103.out; have := HJ123.out; first | omega | exact Nat.le_refl _⟩, ⟨by (with_reducible repeat (first | refine blk_drewN ?_ _ | refine blk_drew ?_ | refine blk_alloc ?_ _)); refine blk_far ?_ NB362_407.out _; (with_reducible repeat (first | refine blk_drewN ?_ _ | refine blk_drew ?_ | refine blk_alloc ?_ _)); refine blk_far ?_ NB362_407.out _; (with_reducible repeat (first | refine blk_drewN ?_ _ | refine blk_drew ?_ | refine blk_alloc ?_ _)); refine blk_far ?_ NB362_407.out _; (with_reducible repeat (first | refine blk_drewN ?_ _ | refine blk_drew ?_ | refine blk_alloc ?_ _)); exact BK362.out⟩, ⟨by (with_reducible repeat (first | refine blk_drewN ?_ _ | refine blk_drew ?_ | refine blk_alloc ?_ _)); refine blk_far ?_ NB363_407.out _; (with_reducible repeat (first | refine blk_drewN ?_ _ | refine blk_drew ?_ | refine blk_alloc ?_ _)); refine blk_far ?_ NB363_407.out _; (with_reducible repeat (first | refine blk_drewN ?_ _ | refine blk_drew ?_ | refine blk_alloc ?_ _)); refine blk_far ?_ NB363_407.out _; (with_reducible repeat (first | refine blk_drewN ?_ _ | refine blk_drew ?_ | refine blk_alloc ?_ _)); exact BK363.out⟩, ⟨by (with_reducible repeat (first | refine blk_drewN ?_ _ | refine blk_drew ?_ | refine blk_alloc ?_ _)); refine blk_far ?_ NB364_407.out _; (with_reducible repeat (first | refine blk_drewN ?_ _ | refine blk_drew ?_ | refine blk_alloc ?_ _)); refine blk_far ?_ NB364_407.out _; (with_reducible repeat (first | refine blk_drewN ?_ _ | refine blk_drew ?_ | refine blk_alloc ?_ _)); refine blk_far ?_ NB364_407.out _; (with_reducible repeat (first | refine blk_drewN ?_ _ | refine blk_drew ?_ | refine blk_alloc ?_ _)); exact BK364.out⟩, ⟨by (with_reducible repeat (first | refine blk_drewN ?_ _ | refine blk_drew ?_ | refine blk_alloc ?_ _)); refine blk_far ?_ NB372_407.out _; (with_reducible repeat (first | refine blk_drewN ?_ _ | refine blk_drew ?_ | refine blk_alloc ?_ _)); refine blk_far ?_ NB372_407.out _; (with_reducible repeat (first | refine blk_drewN ?_ _ | refine blk_drew ?_ | refine blk_alloc ?_ _)); refine blk_far ?_ NB372_407.out _; (with_reducible repeat (first | refine blk_drewN ?_ _ | refine blk_drew ?_ | refine blk_alloc ?_ _)); exact BK372.out⟩, ⟨by (with_reducible repeat (first | refine blk_drewN ?_ _ | refine blk_drew ?_ | refine blk_alloc ?_ _)); refine blk_far ?_ NB381_407.out _; (with_reducible repeat (first | refine blk_drewN ?_ _ | refine blk_drew ?_ | refine blk_alloc ?_ _)); refine blk_far ?_ NB381_407.out _; (with_reducible repeat (first | refine blk_drewN ?_ _ | refine blk_drew ?_ | refine blk_alloc ?_ _)); refine blk_far ?_ NB381_407.out _; (with_reducible repeat (first | refine blk_drewN ?_ _ | refine blk_drew ?_ | refine blk_alloc ?_ _)); exact BK381.out⟩, ⟨by (with_reducible repeat (first | refine blk_drewN ?_ _ | refine blk_drew ?_ | refine blk_alloc ?_ _)); refine blk_far ?_ NB390_407.out _; (with_reducible repeat (first | refine blk_drewN ?_ _ | refine blk_drew ?_ | refine blk_alloc ?_ _)); refine blk_far ?_ NB390_407.out _; (with_reducible repeat (first | refine blk_drewN ?_ _ | refine blk_drew ?_ | refine blk_alloc ?_ _)); refine blk_far ?_ NB390_407.out _; (with_reducible repeat (first | refine blk_drewN ?_ _ | refine blk_drew ?_ | refine blk_alloc ?_ _)); exact BK390.out⟩, ⟨by (with_reducible repeat (first | refine blk_drewN ?_ _ | refine blk_drew ?_ | refine blk_alloc ?_ _)); refine blk_far ?_ NB398_407.out _; (with_reducible repeat (first | refine blk_drewN ?_ _ | refine blk_drew ?_ | refine blk_alloc ?_ _)); refine blk_far ?_ NB398_407.out _; (with_reducible repeat (first | refine blk_drewN ?_ _ | refine blk_drew ?_ | refine blk_alloc ?_ _)); refine blk_far ?_ NB398_407.out _; (with_reducible repeat (first | refine blk_drewN ?_ _ | refine blk_drew ?_ | refine blk_alloc ?_ _)); exact BK398.out⟩, ⟨by (with_reducible repeat (first | refine blk_drewN ?_ _ | refine blk_drew ?_ | refine blk_alloc ?_ _)); refine blk_put (cs := #[.int .i64 t403, .int .i64 t404, .int .u8 0]) ?_ 2 _ rfl; (with_reducible repeat (first | refine blk_drewN ?_ _ | refine blk_drew ?_ | refine blk_alloc ?_ _)); refine blk_put (cs := #[.int .i64 t403, .int .i64 0, .int .u8 0]) ?_ 1 _ rfl; (with_reducible repeat (first | refine blk_drewN ?_ _ | refine blk_drew ?_ | refine blk_alloc ?_ _)); refine blk_put (cs := #[.int .i64 0, .int .i64 0, .int .u8 0]) ?_ 0 _ rfl; (with_reducible repeat (first | refine blk_drewN ?_ _ | refine blk_drew ?_ | refine blk_alloc ?_ _)); exact BK407.out⟩, ⟨bh_ HB⟩⟩
               case rest =>
                clear HC168
                try clear c1
                try clear p2
                try clear c5
                try clear c6
                try clear p6
                try clear c17
                try clear c18
                try clear c19
                try clear c52
                try clear c62
                try clear p64
                try clear c177
                try clear c178
                try clear c179
                try clear c180
                try clear c181
                try clear c182
                try clear c183
                try clear c184
                try clear c186
                try clear c187
                try clear c188
                try clear c189
                try clear c190
                try clear c191
                try clear hcz185_0 hcz185_1 hcz185_2 hcz185_3
                try clear hcz192_0 hcz192_1 hcz192_2
                try clear hfz185_0 hfz185_1 hfz185_2 hfz185_3
                try clear hfz192_0 hfz192_1 hfz192_2
                obtain ⟨kq, x110_167, rfl, HA, HJ167, BK362, BK363, BK364, BK372, BK381, BK390, BK398, BK407, HB⟩ := hcut
                cases kq with
                | zero => exact absurd HA.out (by simp [salvorref16_next.j7])
                | succ kj167 =>
                 have H := HA.out
                 clear HA
                 simp only [salvorref16_next.j7] at H
                 by_cases c193 : x110_167 = true
                 ·subst c193
                  have H1 : ((salvorref16_part.f a0_0 a0_1 a0_2 t403 t404 t405 1 4).bind fun bt408 => (some (bt408.1, bt408.2.1, bt408.2.2, true))) = some (r1, r2, r3, r4) := by rw [if_pos rfl] at H; exact H
                  clear H
                  have H := H1
                  clear H1
                  replace H := Option.bind_eq_some_iff.mp H
                  obtain ⟨⟨t408, t409, t410⟩, A1940, H⟩ := H
                  replace H : (some (t408, t409, t410, true)) = some (r1, r2, r3, r4) := H
                  have A194 := Aside0.mk A1940
                  clear A1940
                  simp only [Option.some.injEq, Prod.mk.injEq] at H
                  obtain ⟨rfl, rfl, rfl, rfl⟩ := H
                  have hnb195 := NB362_363.out
                  have hnc195 := NB363_362.out
                  have hnb196 := NB362_364.out
                  have hnc196 := NB364_362.out
                  have hnb197 := NB362_372.out
                  have hnc197 := NB372_362.out
                  have hnb198 := NB362_381.out
                  have hnc198 := NB381_362.out
                  have hnb199 := NB362_390.out
                  have hnc199 := NB390_362.out
                  have hnb200 := NB362_398.out
                  have hnc200 := NB398_362.out
                  have hnb201 := NB362_407.out
                  have hnc201 := NB407_362.out
                  obtain ⟨hcz202_0, hcz202_1, hcz202_2, hfz202_0, hfz202_1, hfz202_2⟩ := c3_ BK362
                  have hnb203 := NB407_363.out
                  have hnc203 := NB363_407.out
                  have hnb204 := NB407_364.out
                  have hnc204 := NB364_407.out
                  have hnb205 := NB407_372.out
                  have hnc205 := NB372_407.out
                  have hnb206 := NB407_381.out
                  have hnc206 := NB381_407.out
                  have hnb207 := NB407_390.out
                  have hnc207 := NB390_407.out
                  have hnb208 := NB407_398.out
                  have hnc208 := NB398_407.out
                  obtain ⟨hcz209_0, hcz209_1, hcz209_2, hfz209_0, hfz209_1, hfz209_2⟩ := c3_ BK407
                  go_wp2_with (first | ((with_reducible refine gate_callee (f := 63) rfl ?_); refine gl_ (some 113) rfl rfl Try.func63 (by kernel_rfl) rfl #[.agg #[.int .i64 a0_0, .int .i64 a0_1, .bool a0_2], .agg #[.int .i64 t403, .int .i64 t404, .int .u8 t405], .int .i64 1, .int .i64 4] rfl ?_; (with_reducible refine (salvorref16_part.calls a0_0 a0_1 a0_2 t403 t404 t405 1 4 t408 t409 t410 _ A194.out).mono ?_); rintro e w210 ⟨rfl, hb⟩; refine ⟨_, rfl, ?_⟩; replace BK362 := bb_ BK362 hb; replace BK363 := bb_ BK363 hb; replace BK364 := bb_ BK364 hb; replace BK372 := bb_ BK372 hb; replace BK381 := bb_ BK381 hb; replace BK390 := bb_ BK390 hb; replace BK398 := bb_ BK398 hb; replace BK407 := bb_ BK407 hb; replace HB := bs_ HB hb; (try clear hb); have hnb211 := NB364_363.out; have hnc211 := NB363_364.out; have hnb212 := NB364_372.out; have hnc212 := NB372_364.out; have hnb213 := NB364_381.out; have hnc213 := NB381_364.out; have hnb214 := NB364_390.out; have hnc214 := NB390_364.out; have hnb215 := NB364_398.out; have hnc215 := NB398_364.out; obtain ⟨hcz216_0, hcz216_1, hcz216_2, hfz216_0, hfz216_1, hfz216_2⟩ := c3_ BK364))
                  refine bodyPost_ret (results_ct rfl _ _ gb364 29 #[.int .i64 t408, .int .i64 t409, .int .i64 t410] (0, 0) _ rfl (bp_ BK364) Try.underlying29 rfl (by kernel_rfl)) rfl ?_
                  exact ⟨by first | rfl | (simp [errW_none, errW_some] <;> rfl) | (simp [*, errW_none, errW_some] <;> rfl), bh_ HB⟩
                 ·replace c193 := Bool.eq_false_iff.mpr c193
                  subst c193
                  have H1 : (some (0, 0, 0, false)) = some (r1, r2, r3, r4) := by rw [if_neg (show ¬ (false = true) by decide)] at H; exact H
                  clear H
                  have H := H1
                  clear H1
                  simp only [Option.some.injEq, Prod.mk.injEq] at H
                  obtain ⟨rfl, rfl, rfl, rfl⟩ := H
                  have hnb217 := NB364_362.out
                  have hnc217 := NB362_364.out
                  have hnb218 := NB364_363.out
                  have hnc218 := NB363_364.out
                  have hnb219 := NB364_372.out
                  have hnc219 := NB372_364.out
                  have hnb220 := NB364_381.out
                  have hnc220 := NB381_364.out
                  have hnb221 := NB364_390.out
                  have hnc221 := NB390_364.out
                  have hnb222 := NB364_398.out
                  have hnc222 := NB398_364.out
                  have hnb223 := NB364_407.out
                  have hnc223 := NB407_364.out
                  obtain ⟨hcz224_0, hcz224_1, hcz224_2, hfz224_0, hfz224_1, hfz224_2⟩ := c3_ BK364
                  go_wp2
                  refine bodyPost_ret (results_ct rfl _ _ gb364 29 #[.int .i64 0, .int .i64 0, .int .i64 0] (0, 0) _ rfl (bp_ BK364) Try.underlying29 rfl (by kernel_rfl)) rfl ?_
                  exact ⟨by first | rfl | (simp [errW_none, errW_some] <;> rfl) | (simp [*, errW_none, errW_some] <;> rfl), bh_ HB⟩

end Go.Proofs.Ytnoilinjlelpaaa.P
