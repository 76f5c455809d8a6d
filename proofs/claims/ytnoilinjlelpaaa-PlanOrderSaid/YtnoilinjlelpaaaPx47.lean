/- Laid by a program of this session's own (wip/wprint.py, over the kit's print.py): functions of the given program as plain Lean functions, and that the program's calls come to their answers. -/
import Derived.Test.YtnoilinjlelpaaaPx0
import Derived.Test.YtnoilinjlelpaaaPx3
import Derived.Test.YtnoilinjlelpaaaPx5
import Derived.Test.YtnoilinjlelpaaaPx6
import Derived.Test.YtnoilinjlelpaaaPx12
import Derived.Test.YtnoilinjlelpaaaPx19
import Derived.Test.YtnoilinjlelpaaaPx49
import Derived.Test.YtnoilinjlelpaaaPx41
import Derived.Test.YtnoilinjlelpaaaPx45
namespace Go.Proofs.Ytnoilinjlelpaaa.P
open Go.RowKit Go.Proofs.YtnoilinjlelpaaaW.PrintWords Go.Proofs.YtnoilinjlelpaaaW.PrintLast Go.Proofs.YtnoilinjlelpaaaW.PrintMore
attribute [local go_sem] max2_int min2_int max_two min_two max_three min_three max_four min_four   -- for this text's walks alone
set_option linter.unusedVariables false
set_option linter.unusedSimpArgs false

/-! ### salvorlaw18_PlanOrder: function 9 -/
mutual
def salvorlaw18_PlanOrder.j0 : Nat → Bool → Int → Int → Bool → Int → Int → Int → List (S33) → Option (Bool)
 | 0, _, _, _, _, _, _, _, _ => none
 | k + 1, x23, x750000, x750001, x750002, x751000, x751001, x751002, x751003 => if x23 = true then ((salvorlaw18_PlanRuns.f k).bind fun t754 => (some t754)) else ((plan_Next.f k x750000 x750001 x750002 x751000 x751001 x751002 x751003).bind fun bt755 => ((region_Count.f k x751003 (([63] : List Int))).bind fun t762 => (if t762 > 0 then (salvorlaw18_PlanOrder.j2 k 1 x750000 x750001 x750002 x751000 x751001 x751002 x751003 bt755.1 bt755.2.1 bt755.2.2) else ((region_Count.f k x751003 (([42] : List Int))).bind fun t766 => (if t766 > 0 then (salvorlaw18_PlanOrder.j2 k 2 x750000 x750001 x750002 x751000 x751001 x751002 x751003 bt755.1 bt755.2.1 bt755.2.2) else ((region_Count.f k x751003 (([47] : List Int))).bind fun t770 => (if t770 > 0 then (salvorlaw18_PlanOrder.j2 k 3 x750000 x750001 x750002 x751000 x751001 x751002 x751003 bt755.1 bt755.2.1 bt755.2.2) else ((region_Count.f k x751003 (([45] : List Int))).bind fun t774 => (if t774 > 0 then (salvorlaw18_PlanOrder.j1 k 0 (decide (x751001 < x750001)) x750000 x750001 x750002 x751000 x751001 x751002 x751003 bt755.1 bt755.2.1 bt755.2.2) else (salvorlaw18_PlanOrder.j1 k 0 false x750000 x750001 x750002 x751000 x751001 x751002 x751003 bt755.1 bt755.2.1 bt755.2.2))))))))))
def salvorlaw18_PlanOrder.j2 : Nat → Int → Int → Int → Bool → Int → Int → Int → List (S33) → Int → Int → Int → Option (Bool)
 | 0, _, _, _, _, _, _, _, _, _, _, _ => none
 | k + 1, x6, x750000, x750001, x750002, x751000, x751001, x751002, x751003, x759000, x759001, x759002 => (plan_Begin.f k x750000 x750001 x750002 x751000 x751001 x751002 x751003).bind fun bt775 => ((plan_Next.f k x750000 x750001 x750002 bt775.1 bt775.2.1 bt775.2.2.1 bt775.2.2.2).bind fun bt782 => ((salvorref16_StatusOf.f bt782.1).bind fun t786 => (if x6 = 4 then (salvorlaw18_PlanOrder.j3 k x6 t786 (x759000 == 0) x750000 x750001 x750002 x751000 x751001 x751002 x751003 x759000 x759001 x759002 bt775.1 bt775.2.1 bt775.2.2.1 bt775.2.2.2 bt782.1 bt782.2.1 bt782.2.2) else (salvorlaw18_PlanOrder.j3 k x6 t786 false x750000 x750001 x750002 x751000 x751001 x751002 x751003 x759000 x759001 x759002 bt775.1 bt775.2.1 bt775.2.2.1 bt775.2.2.2 bt782.1 bt782.2.1 bt782.2.2))))
def salvorlaw18_PlanOrder.j3 : Nat → Int → Int → Bool → Int → Int → Bool → Int → Int → Int → List (S33) → Int → Int → Int → Int → Int → Int → List (S33) → Int → Int → Int → Option (Bool)
 | 0, _, _, _, _, _, _, _, _, _, _, _, _, _, _, _, _, _, _, _, _ => none
 | k + 1, x6, x9, x74, x750000, x750001, x750002, x751000, x751001, x751002, x751003, x759000, x759001, x759002, x782000, x782001, x782002, x782003, x786000, x786001, x786002 => if x74 = true then (if (wrap64 (x751001 + 1)) < x750001 then (some false) else (salvorlaw18_PlanOrder.j4 k 0 x9 x750000 x750001 x750002 x751000 x751001 x751002 x751003 x759000 x759001 x759002 x782000 x782001 x782002 x782003 x786000 x786001 x786002)) else (salvorlaw18_PlanOrder.j4 k x6 x9 x750000 x750001 x750002 x751000 x751001 x751002 x751003 x759000 x759001 x759002 x782000 x782001 x782002 x782003 x786000 x786001 x786002)
def salvorlaw18_PlanOrder.j4 : Nat → Int → Int → Int → Int → Bool → Int → Int → Int → List (S33) → Int → Int → Int → Int → Int → Int → List (S33) → Int → Int → Int → Option (Bool)
 | 0, _, _, _, _, _, _, _, _, _, _, _, _, _, _, _, _, _, _, _ => none
 | k + 1, x6, x9, x750000, x750001, x750002, x751000, x751001, x751002, x751003, x759000, x759001, x759002, x782000, x782001, x782002, x782003, x786000, x786001, x786002 => if x759000 = x6 then (if x782002 = x9 then (if x782001 = 0 then ((region_Count.f k x751003 (([43] : List Int))).bind fun t790 => ((region_End.f k x751003).bind fun t791 => (if t790 = t791 then (if ((x786000 == 0) == true) = true then ((salvorlaw18_PlanRuns.f k).bind fun t792 => (some t792)) else (some false)) else (if x750001 = 0 then ((region_Count.f k x751003 (([43, 45] : List Int))).bind fun t796 => ((region_End.f k x751003).bind fun t797 => (if ((x786000 == 0) == (t796 == t797)) = true then ((salvorlaw18_PlanRuns.f k).bind fun t798 => (some t798)) else (some false)))) else (if ((x786000 == 0) == false) = true then ((salvorlaw18_PlanRuns.f k).bind fun t799 => (some t799)) else (some false)))))) else (some false)) else (some false)) else (some false)
def salvorlaw18_PlanOrder.j1 : Nat → Int → Bool → Int → Int → Bool → Int → Int → Int → List (S33) → Int → Int → Int → Option (Bool)
 | 0, _, _, _, _, _, _, _, _, _, _, _, _ => none
 | k + 1, x6, x46, x750000, x750001, x750002, x751000, x751001, x751002, x751003, x759000, x759001, x759002 => if x46 = true then (salvorlaw18_PlanOrder.j2 k 4 x750000 x750001 x750002 x751000 x751001 x751002 x751003 x759000 x759001 x759002) else (salvorlaw18_PlanOrder.j2 k x6 x750000 x750001 x750002 x751000 x751001 x751002 x751003 x759000 x759001 x759002)
end
def salvorlaw18_PlanOrder.f (k : Nat) (a0_0 : Int) (a0_1 : Int) (a0_2 : Bool) (a1_0 : Int) (a1_1 : Int) (a1_2 : Int) (l1_3 : List (S33)) : Option (Bool) := (salvorlaw16_Few.f l1_3).bind fun t751 => (if t751 = true then ((plan_May.f a0_0 a0_1 a0_2).bind fun t752 => (if t752 = true then ((maptext_May.f k a1_0 a1_1 a1_2 l1_3).bind fun t753 => (salvorlaw18_PlanOrder.j0 k (!t753) a0_0 a0_1 a0_2 a1_0 a1_1 a1_2 l1_3)) else (salvorlaw18_PlanOrder.j0 k true a0_0 a0_1 a0_2 a1_0 a1_1 a1_2 l1_3))) else (salvorlaw18_PlanOrder.j0 k true a0_0 a0_1 a0_2 a1_0 a1_1 a1_2 l1_3))
theorem salvorlaw18_PlanOrder.mono_l : ∀ k, (∀ y0 y1 y2 y3 y4 y5 y6 y7, LeO (salvorlaw18_PlanOrder.j0 k y0 y1 y2 y3 y4 y5 y6 y7) (salvorlaw18_PlanOrder.j0 (k + 1) y0 y1 y2 y3 y4 y5 y6 y7)) ∧ (∀ y0 y1 y2 y3 y4 y5 y6 y7 y8 y9 y10, LeO (salvorlaw18_PlanOrder.j2 k y0 y1 y2 y3 y4 y5 y6 y7 y8 y9 y10) (salvorlaw18_PlanOrder.j2 (k + 1) y0 y1 y2 y3 y4 y5 y6 y7 y8 y9 y10)) ∧ (∀ y0 y1 y2 y3 y4 y5 y6 y7 y8 y9 y10 y11 y12 y13 y14 y15 y16 y17 y18 y19, LeO (salvorlaw18_PlanOrder.j3 k y0 y1 y2 y3 y4 y5 y6 y7 y8 y9 y10 y11 y12 y13 y14 y15 y16 y17 y18 y19) (salvorlaw18_PlanOrder.j3 (k + 1) y0 y1 y2 y3 y4 y5 y6 y7 y8 y9 y10 y11 y12 y13 y14 y15 y16 y17 y18 y19)) ∧ (∀ y0 y1 y2 y3 y4 y5 y6 y7 y8 y9 y10 y11 y12 y13 y14 y15 y16 y17 y18, LeO (salvorlaw18_PlanOrder.j4 k y0 y1 y2 y3 y4 y5 y6 y7 y8 y9 y10 y11 y12 y13 y14 y15 y16 y17 y18) (salvorlaw18_PlanOrder.j4 (k + 1) y0 y1 y2 y3 y4 y5 y6 y7 y8 y9 y10 y11 y12 y13 y14 y15 y16 y17 y18)) ∧ (∀ y0 y1 y2 y3 y4 y5 y6 y7 y8 y9 y10 y11, LeO (salvorlaw18_PlanOrder.j1 k y0 y1 y2 y3 y4 y5 y6 y7 y8 y9 y10 y11) (salvorlaw18_PlanOrder.j1 (k + 1) y0 y1 y2 y3 y4 y5 y6 y7 y8 y9 y10 y11))
 | 0 => ⟨fun _ _ _ _ _ _ _ _ r h => by simp [salvorlaw18_PlanOrder.j0] at h, fun _ _ _ _ _ _ _ _ _ _ _ r h => by simp [salvorlaw18_PlanOrder.j2] at h, fun _ _ _ _ _ _ _ _ _ _ _ _ _ _ _ _ _ _ _ _ r h => by simp [salvorlaw18_PlanOrder.j3] at h, fun _ _ _ _ _ _ _ _ _ _ _ _ _ _ _ _ _ _ _ r h => by simp [salvorlaw18_PlanOrder.j4] at h, fun _ _ _ _ _ _ _ _ _ _ _ _ r h => by simp [salvorlaw18_PlanOrder.j1] at h⟩
 | k + 1 => by
  obtain ⟨ih0, ih1, ih2, ih3, ih4⟩ := salvorlaw18_PlanOrder.mono_l k
  refine ⟨?_, ?_, ?_, ?_, ?_⟩
  ·intro y0 y1 y2 y3 y4 y5 y6 y7
   unfold salvorlaw18_PlanOrder.j0
   repeat' first
   | (with_reducible exact ih0 _ _ _ _ _ _ _ _)
   | (with_reducible exact ih1 _ _ _ _ _ _ _ _ _ _ _)
   | (with_reducible exact ih2 _ _ _ _ _ _ _ _ _ _ _ _ _ _ _ _ _ _ _ _)
   | (with_reducible exact ih3 _ _ _ _ _ _ _ _ _ _ _ _ _ _ _ _ _ _ _)
   | (with_reducible exact ih4 _ _ _ _ _ _ _ _ _ _ _ _)
   | (with_reducible exact maptext_May.mono _ _ _ _ _)
   | (with_reducible exact plan_Begin.mono _ _ _ _ _ _ _ _)
   | (with_reducible exact plan_Next.mono _ _ _ _ _ _ _ _)
   | (with_reducible exact region_Count.mono _ _ _)
   | (with_reducible exact region_End.mono _ _)
   | (with_reducible exact salvorlaw18_PlanRuns.mono _)
   | (with_reducible exact LeO.refl _)
   | (with_reducible exact LeO.none _)
   | (with_reducible refine LeO.ite ?_ ?_)
   | (with_reducible refine LeO.bind ?_ (fun _ => ?_))
   | exact ih0 _ _ _ _ _ _ _ _
   | exact ih1 _ _ _ _ _ _ _ _ _ _ _
   | exact ih2 _ _ _ _ _ _ _ _ _ _ _ _ _ _ _ _ _ _ _ _
   | exact ih3 _ _ _ _ _ _ _ _ _ _ _ _ _ _ _ _ _ _ _
   | exact ih4 _ _ _ _ _ _ _ _ _ _ _ _
   | exact maptext_May.mono _ _ _ _ _
   | exact plan_Begin.mono _ _ _ _ _ _ _ _
   | exact plan_Next.mono _ _ _ _ _ _ _ _
   | exact region_Count.mono _ _ _
   | exact region_End.mono _ _
   | exact salvorlaw18_PlanRuns.mono _
   | exact LeO.none _
   | refine LeO.ite ?_ ?_
   | refine LeO.bind ?_ (fun _ => ?_)
  ·intro y0 y1 y2 y3 y4 y5 y6 y7 y8 y9 y10
   unfold salvorlaw18_PlanOrder.j2
   repeat' first
   | (with_reducible exact ih0 _ _ _ _ _ _ _ _)
   | (with_reducible exact ih1 _ _ _ _ _ _ _ _ _ _ _)
   | (with_reducible exact ih2 _ _ _ _ _ _ _ _ _ _ _ _ _ _ _ _ _ _ _ _)
   | (with_reducible exact ih3 _ _ _ _ _ _ _ _ _ _ _ _ _ _ _ _ _ _ _)
   | (with_reducible exact ih4 _ _ _ _ _ _ _ _ _ _ _ _)
   | (with_reducible exact maptext_May.mono _ _ _ _ _)
   | (with_reducible exact plan_Begin.mono _ _ _ _ _ _ _ _)
   | (with_reducible exact plan_Next.mono _ _ _ _ _ _ _ _)
   | (with_reducible exact region_Count.mono _ _ _)
   | (with_reducible exact region_End.mono _ _)
   | (with_reducible exact salvorlaw18_PlanRuns.mono _)
   | (with_reducible exact LeO.refl _)
   | (with_reducible exact LeO.none _)
   | (with_reducible refine LeO.ite ?_ ?_)
   | (with_reducible refine LeO.bind ?_ (fun _ => ?_))
   | exact ih0 _ _ _ _ _ _ _ _
   | exact ih1 _ _ _ _ _ _ _ _ _ _ _
   | exact ih2 _ _ _ _ _ _ _ _ _ _ _ _ _ _ _ _ _ _ _ _
   | exact ih3 _ _ _ _ _ _ _ _ _ _ _ _ _ _ _ _ _ _ _
   | exact ih4 _ _ _ _ _ _ _ _ _ _ _ _
   | exact maptext_May.mono _ _ _ _ _
   | exact plan_Begin.mono _ _ _ _ _ _ _ _
   | exact plan_Next.mono _ _ _ _ _ _ _ _
   | exact region_Count.mono _ _ _
   | exact region_End.mono _ _
   | exact salvorlaw18_PlanRuns.mono _
   | exact LeO.none _
   | refine LeO.ite ?_ ?_
   | refine LeO.bind ?_ (fun _ => ?_)
  ·intro y0 y1 y2 y3 y4 y5 y6 y7 y8 y9 y10 y11 y12 y13 y14 y15 y16 y17 y18 y19
   unfold salvorlaw18_PlanOrder.j3
   repeat' first
   | (with_reducible exact ih0 _ _ _ _ _ _ _ _)
   | (with_reducible exact ih1 _ _ _ _ _ _ _ _ _ _ _)
   | (with_reducible exact ih2 _ _ _ _ _ _ _ _ _ _ _ _ _ _ _ _ _ _ _ _)
   | (with_reducible exact ih3 _ _ _ _ _ _ _ _ _ _ _ _ _ _ _ _ _ _ _)
   | (with_reducible exact ih4 _ _ _ _ _ _ _ _ _ _ _ _)
   | (with_reducible exact maptext_May.mono _ _ _ _ _)
   | (with_reducible exact plan_Begin.mono _ _ _ _ _ _ _ _)
   | (with_reducible exact plan_Next.mono _ _ _ _ _ _ _ _)
   | (with_reducible exact region_Count.mono _ _ _)
   | (with_reducible exact region_End.mono _ _)
   | (with_reducible exact salvorlaw18_PlanRuns.mono _)
   | (with_reducible exact LeO.refl _)
   | (with_reducible exact LeO.none _)
   | (with_reducible refine LeO.ite ?_ ?_)
   | (with_reducible refine LeO.bind ?_ (fun _ => ?_))
   | exact ih0 _ _ _ _ _ _ _ _
   | exact ih1 _ _ _ _ _ _ _ _ _ _ _
   | exact ih2 _ _ _ _ _ _ _ _ _ _ _ _ _ _ _ _ _ _ _ _
   | exact ih3 _ _ _ _ _ _ _ _ _ _ _ _ _ _ _ _ _ _ _
   | exact ih4 _ _ _ _ _ _ _ _ _ _ _ _
   | exact maptext_May.mono _ _ _ _ _
   | exact plan_Begin.mono _ _ _ _ _ _ _ _
   | exact plan_Next.mono _ _ _ _ _ _ _ _
   | exact region_Count.mono _ _ _
   | exact region_End.mono _ _
   | exact salvorlaw18_PlanRuns.mono _
   | exact LeO.none _
   | refine LeO.ite ?_ ?_
   | refine LeO.bind ?_ (fun _ => ?_)
  ·intro y0 y1 y2 y3 y4 y5 y6 y7 y8 y9 y10 y11 y12 y13 y14 y15 y16 y17 y18
   unfold salvorlaw18_PlanOrder.j4
   repeat' first
   | (with_reducible exact ih0 _ _ _ _ _ _ _ _)
   | (with_reducible exact ih1 _ _ _ _ _ _ _ _ _ _ _)
   | (with_reducible exact ih2 _ _ _ _ _ _ _ _ _ _ _ _ _ _ _ _ _ _ _ _)
   | (with_reducible exact ih3 _ _ _ _ _ _ _ _ _ _ _ _ _ _ _ _ _ _ _)
   | (with_reducible exact ih4 _ _ _ _ _ _ _ _ _ _ _ _)
   | (with_reducible exact maptext_May.mono _ _ _ _ _)
   | (with_reducible exact plan_Begin.mono _ _ _ _ _ _ _ _)
   | (with_reducible exact plan_Next.mono _ _ _ _ _ _ _ _)
   | (with_reducible exact region_Count.mono _ _ _)
   | (with_reducible exact region_End.mono _ _)
   | (with_reducible exact salvorlaw18_PlanRuns.mono _)
   | (with_reducible exact LeO.refl _)
   | (with_reducible exact LeO.none _)
   | (with_reducible refine LeO.ite ?_ ?_)
   | (with_reducible refine LeO.bind ?_ (fun _ => ?_))
   | exact ih0 _ _ _ _ _ _ _ _
   | exact ih1 _ _ _ _ _ _ _ _ _ _ _
   | exact ih2 _ _ _ _ _ _ _ _ _ _ _ _ _ _ _ _ _ _ _ _
   | exact ih3 _ _ _ _ _ _ _ _ _ _ _ _ _ _ _ _ _ _ _
   | exact ih4 _ _ _ _ _ _ _ _ _ _ _ _
   | exact maptext_May.mono _ _ _ _ _
   | exact plan_Begin.mono _ _ _ _ _ _ _ _
   | exact plan_Next.mono _ _ _ _ _ _ _ _
   | exact region_Count.mono _ _ _
   | exact region_End.mono _ _
   | exact salvorlaw18_PlanRuns.mono _
   | exact LeO.none _
   | refine LeO.ite ?_ ?_
   | refine LeO.bind ?_ (fun _ => ?_)
  ·intro y0 y1 y2 y3 y4 y5 y6 y7 y8 y9 y10 y11
   unfold salvorlaw18_PlanOrder.j1
   repeat' first
   | (with_reducible exact ih0 _ _ _ _ _ _ _ _)
   | (with_reducible exact ih1 _ _ _ _ _ _ _ _ _ _ _)
   | (with_reducible exact ih2 _ _ _ _ _ _ _ _ _ _ _ _ _ _ _ _ _ _ _ _)
   | (with_reducible exact ih3 _ _ _ _ _ _ _ _ _ _ _ _ _ _ _ _ _ _ _)
   | (with_reducible exact ih4 _ _ _ _ _ _ _ _ _ _ _ _)
   | (with_reducible exact maptext_May.mono _ _ _ _ _)
   | (with_reducible exact plan_Begin.mono _ _ _ _ _ _ _ _)
   | (with_reducible exact plan_Next.mono _ _ _ _ _ _ _ _)
   | (with_reducible exact region_Count.mono _ _ _)
   | (with_reducible exact region_End.mono _ _)
   | (with_reducible exact salvorlaw18_PlanRuns.mono _)
   | (with_reducible exact LeO.refl _)
   | (with_reducible exact LeO.none _)
   | (with_reducible refine LeO.ite ?_ ?_)
   | (with_reducible refine LeO.bind ?_ (fun _ => ?_))
   | exact ih0 _ _ _ _ _ _ _ _
   | exact ih1 _ _ _ _ _ _ _ _ _ _ _
   | exact ih2 _ _ _ _ _ _ _ _ _ _ _ _ _ _ _ _ _ _ _ _
   | exact ih3 _ _ _ _ _ _ _ _ _ _ _ _ _ _ _ _ _ _ _
   | exact ih4 _ _ _ _ _ _ _ _ _ _ _ _
   | exact maptext_May.mono _ _ _ _ _
   | exact plan_Begin.mono _ _ _ _ _ _ _ _
   | exact plan_Next.mono _ _ _ _ _ _ _ _
   | exact region_Count.mono _ _ _
   | exact region_End.mono _ _
   | exact salvorlaw18_PlanRuns.mono _
   | exact LeO.none _
   | refine LeO.ite ?_ ?_
   | refine LeO.bind ?_ (fun _ => ?_)
theorem salvorlaw18_PlanOrder.mono : ∀ a0 a1 a2 a3 a4 a5 a6 k, LeO (salvorlaw18_PlanOrder.f k a0 a1 a2 a3 a4 a5 a6) (salvorlaw18_PlanOrder.f (k + 1) a0 a1 a2 a3 a4 a5 a6) := by
 intro a0 a1 a2 a3 a4 a5 a6 k
 obtain ⟨ih0, ih1, ih2, ih3, ih4⟩ := salvorlaw18_PlanOrder.mono_l k
 unfold salvorlaw18_PlanOrder.f
 repeat' first
   | (with_reducible exact ih0 _ _ _ _ _ _ _ _)
   | (with_reducible exact ih1 _ _ _ _ _ _ _ _ _ _ _)
   | (with_reducible exact ih2 _ _ _ _ _ _ _ _ _ _ _ _ _ _ _ _ _ _ _ _)
   | (with_reducible exact ih3 _ _ _ _ _ _ _ _ _ _ _ _ _ _ _ _ _ _ _)
   | (with_reducible exact ih4 _ _ _ _ _ _ _ _ _ _ _ _)
   | (with_reducible exact maptext_May.mono _ _ _ _ _)
   | (with_reducible exact plan_Begin.mono _ _ _ _ _ _ _ _)
   | (with_reducible exact plan_Next.mono _ _ _ _ _ _ _ _)
   | (with_reducible exact region_Count.mono _ _ _)
   | (with_reducible exact region_End.mono _ _)
   | (with_reducible exact salvorlaw18_PlanRuns.mono _)
   | (with_reducible exact LeO.refl _)
   | (with_reducible exact LeO.none _)
   | (with_reducible refine LeO.ite ?_ ?_)
   | (with_reducible refine LeO.bind ?_ (fun _ => ?_))
   | exact ih0 _ _ _ _ _ _ _ _
   | exact ih1 _ _ _ _ _ _ _ _ _ _ _
   | exact ih2 _ _ _ _ _ _ _ _ _ _ _ _ _ _ _ _ _ _ _ _
   | exact ih3 _ _ _ _ _ _ _ _ _ _ _ _ _ _ _ _ _ _ _
   | exact ih4 _ _ _ _ _ _ _ _ _ _ _ _
   | exact maptext_May.mono _ _ _ _ _
   | exact plan_Begin.mono _ _ _ _ _ _ _ _
   | exact plan_Next.mono _ _ _ _ _ _ _ _
   | exact region_Count.mono _ _ _
   | exact region_End.mono _ _
   | exact salvorlaw18_PlanRuns.mono _
   | exact LeO.none _
   | refine LeO.ite ?_ ?_
   | refine LeO.bind ?_ (fun _ => ?_)
def salvorlaw18_PlanOrder.T20 : Bool × List (List Nat × List Nat) := (true, [([], []), ([0], [0]), ([], []), ([1, 2], [1, 2]), ([3], [3]), ([4], [4]), ([5, 4], [4, 5]), ([4], [4]), ([6, 7, 4], [4, 6, 7]), ([4, 8], [4, 8]), ([9, 4], [9]), ([10], [10]), ([11, 10], [10, 11]), ([12, 10], [10, 12]), ([10, 13], [10, 13]), ([14, 10], [14]), ([15], [15]), ([16, 15], [15, 16]), ([17, 15], [15, 17]), ([15], [15]), ([19, 15], [15, 19]), ([15], [15]), ([20, 21, 15, 15], [15, 20, 21]), ([15], [15]), ([23, 15], [15, 23]), ([24, 22, 15], [15, 24]), ([22, 25, 15], [15, 22, 25]), ([26, 25, 15], [15, 26]), ([27], [27]), ([28, 27], [27, 28]), ([29, 27], [27, 29]), ([30, 27, 27], [27, 30]), ([31], [31]), ([32, 31], [31, 32]), ([31], [31]), ([33, 34, 31, 31], [31, 33, 34]), ([31], [31]), ([36, 31], [31, 36]), ([37, 35, 31], [31, 37]), ([35, 38, 31], [31, 35, 38]), ([31, 39, 27], [27, 31, 39]), ([27, 40, 15], [15, 27, 40]), ([18, 41, 15], [15, 18, 41]), ([15, 42], [15, 42]), ([43, 38], [43]), ([44, 44], [44]), ([44, 45], [44, 45]), ([46, 45, 0, 1, 2, 3, 4, 5, 6, 7, 8, 9, 10, 11, 12, 13, 14, 15, 16, 17, 18, 19, 20, 21, 22, 23, 24, 25, 26, 27, 28, 29, 30, 31, 32, 33, 34, 35, 36, 37, 38, 39, 40, 41, 42, 43, 44, 45, 46], [46])])
def salvorlaw18_PlanOrder.B20 : List Nat := [0, 1, 0, 7, 15, 31, 63, 31, 255, 511, 1023, 2047, 4095, 8191, 16383, 32767, 65535, 131071, 262143, 65535, 589823, 65535, 3735551, 65535, 8454143, 33095679, 66650111, 133758975, 267976703, 536412159, 1073283071, 2147024895, 4294508543, 8589475839, 4294508543, 34359279615, 4294508543, 73013985279, 274877448191, 549755355135, 1099511169023, 2199022796799, 4398046511103, 8796093022207, 17592186044415, 35184372088831, 70368744177663, 140737488355327]
theorem salvorlaw18_PlanOrder.tab20 : rtab .any (opsOf Try.f9 20) = salvorlaw18_PlanOrder.T20 := by kernel_rfl
theorem salvorlaw18_PlanOrder.bits20 : waitsOk salvorlaw18_PlanOrder.T20.2 salvorlaw18_PlanOrder.B20 = true := by kernel_rfl
set_option maxHeartbeats 8000000 in
set_option maxRecDepth 100000 in
theorem salvorlaw18_PlanOrder.calls (k : Nat) (a0_0 : Int) (a0_1 : Int) (a0_2 : Bool) (a1_0 : Int) (a1_1 : Int) (a1_2 : Int) (A1_3 : Option Addr) (c1_3 : Nat) (l1_3 : List (S33)) (r : Bool) (w : World) (hr1_3 : Kd.C k33 w A1_3 l1_3.length l1_3) (hc1_3 : l1_3.length ≤ c1_3) (h : salvorlaw18_PlanOrder.f k a0_0 a0_1 a0_2 a1_0 a1_1 a1_2 l1_3 = some r) (hrt : r = true) :
  Calls Try.prog 9 #[.agg #[.int .i64 a0_0, .int .i64 a0_1, .bool a0_2], .agg #[.int .i64 a1_0, .int .i64 a1_1, .int .u8 a1_2, .slice A1_3 l1_3.length c1_3]] w fun e w' => e = .returned (.bool r) ∧ Below w.heap.size w w' := by
 have HT := Aside0.mk hrt
 clear hrt
 have hu23 := Try.underlying23
 have hu26 := Try.underlying26
 have hu29 := Try.underlying29
 have HR1_3 := Aside0.mk hr1_3
 have HC1_3 := Aside0.mk hc1_3
 clear hr1_3 hc1_3
 have HB := Aside0.mk (Below.refl w.heap.size w)
 have H : ((salvorlaw16_Few.f l1_3).bind fun t751 => (if t751 = true then ((plan_May.f a0_0 a0_1 a0_2).bind fun t752 => (if t752 = true then ((maptext_May.f k a1_0 a1_1 a1_2 l1_3).bind fun t753 => (salvorlaw18_PlanOrder.j0 k (!t753) a0_0 a0_1 a0_2 a1_0 a1_1 a1_2 l1_3)) else (salvorlaw18_PlanOrder.j0 k true a0_0 a0_1 a0_2 a1_0 a1_1 a1_2 l1_3))) else (salvorlaw18_PlanOrder.j0 k true a0_0 a0_1 a0_2 a1_0 a1_1 a1_2 l1_3))) = some r := h
 clear h
 have HC3 := Aside0.mk H
 clear H
 go_enter Try.func9, Try.ntmps9
 go_upto_region 1 with (first | ((with_reducible refine gate_dst (N := 2) rfl ?_); (try (refine gate_guard (by rfl) ?_; dsimp only)); refine box_e 2 #[.int .i64 a0_0, .int .i64 a0_1, .bool a0_2] 23 ?_; intro gb749 hg w4 hbox hb; have BK749 := Aside0.mk hbox; have GW749 := bg_ HB hg; have GE749 := bg_ HB hg; replace HB := bs_ HB hb; clear hb hbox hg) | ((with_reducible refine gate_dst (N := 3) rfl ?_); (try (refine gate_guard (by rfl) ?_; dsimp only)); refine box_e 3 #[.int .i64 a1_0, .int .i64 a1_1, .int .u8 a1_2, .slice A1_3 l1_3.length c1_3] 26 ?_; intro gb750 hg w5 hbox hb; have BK750 := Aside0.mk hbox; have GW750 := bg_ HB hg; have GE750 := bg_ HB hg; have NB749_750 := bn_ BK749 hg; have NB750_749 := bm_ BK749 hg; replace BK749 := bb_ BK749 hb; replace HB := bs_ HB hb; clear hb hbox hg))
 (try simp only [Act.put, List.setIfInBounds_toArray, List.set_cons_zero, List.set_cons_succ])
 go_cut [23] (fun v23 wc => ∃ (kq : Nat) (x23_2 : Bool), v23 = .bool x23_2 ∧ Aside0 (salvorlaw18_PlanOrder.j0 kq x23_2 a0_0 a0_1 a0_2 a1_0 a1_1 a1_2 l1_3 = some r) ∧ Aside0 (kq ≤ k) ∧ Aside0 (wc.heap[gb749]? = some (.cells #[.int .i64 a0_0, .int .i64 a0_1, .bool a0_2] 23 (0, 0))) ∧ Aside0 (wc.heap[gb750]? = some (.cells #[.int .i64 a1_0, .int .i64 a1_1, .int .u8 a1_2, (.slice A1_3 l1_3.length c1_3)] 26 (0, 0))) ∧ Aside0 (Below w.heap.size w wc))
 case first =>
  have H := HC3.out
  clear HC3
  replace H := Option.bind_eq_some_iff.mp H
  obtain ⟨t751, A60, H⟩ := H
  replace H : (if t751 = true then ((plan_May.f a0_0 a0_1 a0_2).bind fun t752 => (if t752 = true then ((maptext_May.f k a1_0 a1_1 a1_2 l1_3).bind fun t753 => (salvorlaw18_PlanOrder.j0 k (!t753) a0_0 a0_1 a0_2 a1_0 a1_1 a1_2 l1_3)) else (salvorlaw18_PlanOrder.j0 k true a0_0 a0_1 a0_2 a1_0 a1_1 a1_2 l1_3))) else (salvorlaw18_PlanOrder.j0 k true a0_0 a0_1 a0_2 a1_0 a1_1 a1_2 l1_3)) = some r := H
  have A6 := Aside0.mk A60
  clear A60
  by_cases c7 : t751 = true
  ·subst c7
   have H1 : ((plan_May.f a0_0 a0_1 a0_2).bind fun t752 => (if t752 = true then ((maptext_May.f k a1_0 a1_1 a1_2 l1_3).bind fun t753 => (salvorlaw18_PlanOrder.j0 k (!t753) a0_0 a0_1 a0_2 a1_0 a1_1 a1_2 l1_3)) else (salvorlaw18_PlanOrder.j0 k true a0_0 a0_1 a0_2 a1_0 a1_1 a1_2 l1_3))) = some r := by rw [if_pos rfl] at H; exact H
   clear H
   have H := H1
   clear H1
   replace H := Option.bind_eq_some_iff.mp H
   obtain ⟨t752, A80, H⟩ := H
   replace H : (if t752 = true then ((maptext_May.f k a1_0 a1_1 a1_2 l1_3).bind fun t753 => (salvorlaw18_PlanOrder.j0 k (!t753) a0_0 a0_1 a0_2 a1_0 a1_1 a1_2 l1_3)) else (salvorlaw18_PlanOrder.j0 k true a0_0 a0_1 a0_2 a1_0 a1_1 a1_2 l1_3)) = some r := H
   have A8 := Aside0.mk A80
   clear A80
   by_cases c9 : t752 = true
   ·subst c9
    have H1 : ((maptext_May.f k a1_0 a1_1 a1_2 l1_3).bind fun t753 => (salvorlaw18_PlanOrder.j0 k (!t753) a0_0 a0_1 a0_2 a1_0 a1_1 a1_2 l1_3)) = some r := by rw [if_pos rfl] at H; exact H
    clear H
    have H := H1
    clear H1
    replace H := Option.bind_eq_some_iff.mp H
    obtain ⟨t753, A100, H⟩ := H
    replace H : (salvorlaw18_PlanOrder.j0 k (!t753) a0_0 a0_1 a0_2 a1_0 a1_1 a1_2 l1_3) = some r := H
    have A10 := Aside0.mk A100
    clear A100
    have H' := Aside0.mk H
    clear H
    have hnb11 := NB750_749.out
    have hnc11 := NB749_750.out
    have hcz12_0 : w5.cell? ⟨gb750, 0, none⟩ = some (.int .i64 a1_0) := (blk_cell BK750.out 0).trans rfl
    have hcz12_1 : w5.cell? ⟨gb750, 1, none⟩ = some (.int .i64 a1_1) := (blk_cell BK750.out 1).trans rfl
    have hcz12_2 : w5.cell? ⟨gb750, 2, none⟩ = some (.int .u8 a1_2) := (blk_cell BK750.out 2).trans rfl
    have hcz12_3 : w5.cell? ⟨gb750, 3, none⟩ = some (.slice A1_3 l1_3.length c1_3) := (blk_cell BK750.out 3).trans rfl
    have hfz12_0 := blk_frozen BK750.out 0
    have hfz12_1 := blk_frozen BK750.out 1
    have hfz12_2 := blk_frozen BK750.out 2
    have hfz12_3 := blk_frozen BK750.out 3
    go_wp2_with (first | ((with_reducible refine gate_callee (f := 15) rfl ?_); refine gl_ (some 12) rfl rfl Try.func15 (by kernel_rfl) rfl #[.slice A1_3 l1_3.length c1_3] rfl ?_; (with_reducible refine (salvorlaw16_Few.calls _ _ l1_3 true _ ?side1 ?side2 A6.out).mono ?_); (case side1 => exact cb_ HR1_3 HB); (case side2 => exact HC1_3.out); rintro e w' ⟨rfl, ⟨nd, rfl⟩⟩; refine ⟨_, rfl, ?_⟩; have hcz13_0 : w5.cell? ⟨gb749, 0, none⟩ = some (.int .i64 a0_0) := (blk_cell BK749.out 0).trans rfl; have hcz13_1 : w5.cell? ⟨gb749, 1, none⟩ = some (.int .i64 a0_1) := (blk_cell BK749.out 1).trans rfl; have hcz13_2 : w5.cell? ⟨gb749, 2, none⟩ = some (.bool a0_2) := (blk_cell BK749.out 2).trans rfl; have hfz13_0 := blk_frozen BK749.out 0; have hfz13_1 := blk_frozen BK749.out 1; have hfz13_2 := blk_frozen BK749.out 2) | (go_at_call 14; (with_reducible refine (plan_May.calls a0_0 a0_1 a0_2 true _ A8.out).mono ?_); rintro e w14 ⟨rfl, hb⟩; replace BK749 := bb_ BK749 hb; replace BK750 := bb_ BK750 hb; replace HB := bs_ HB hb; (try clear hb); (try clear hb2); (try clear hk); (try clear hi); have hcz15_0 : w14.cell? ⟨gb750, 0, none⟩ = some (.int .i64 a1_0) := (blk_cell BK750.out 0).trans rfl; have hcz15_1 : w14.cell? ⟨gb750, 1, none⟩ = some (.int .i64 a1_1) := (blk_cell BK750.out 1).trans rfl; have hcz15_2 : w14.cell? ⟨gb750, 2, none⟩ = some (.int .u8 a1_2) := (blk_cell BK750.out 2).trans rfl; have hcz15_3 : w14.cell? ⟨gb750, 3, none⟩ = some (.slice A1_3 l1_3.length c1_3) := (blk_cell BK750.out 3).trans rfl; have hfz15_0 := blk_frozen BK750.out 0; have hfz15_1 := blk_frozen BK750.out 1; have hfz15_2 := blk_frozen BK750.out 2; have hfz15_3 := blk_frozen BK750.out 3) | (go_at_call 18; (with_reducible refine (maptext_May.calls k a1_0 a1_1 a1_2 _ _ l1_3 t753 _ ?side1 ?side2 A10.out).mono ?_); (case side1 => exact cb_ HR1_3 HB); (case side2 => exact HC1_3.out); rintro e w16 ⟨rfl, hb⟩; replace BK749 := bb_ BK749 hb; replace BK750 := bb_ BK750 hb; replace HB := bs_ HB hb; (try clear hb); (try clear hb2); (try clear hk); (try clear hi)))
    go_meet
    case rel => exact ⟨_, (!t753), (by first | rfl | (simp; done) | (simp [*]; done)), H', ⟨by first | omega | exact Nat.le_refl _⟩, ⟨by (with_reducible repeat (first | refine blk_drewN ?_ _ | refine blk_drew ?_ | refine blk_alloc ?_ _)); exact BK749.out⟩, ⟨by (with_reducible repeat (first | refine blk_drewN ?_ _ | refine blk_drew ?_ | refine blk_alloc ?_ _)); exact BK750.out⟩, ⟨by repeat (first | (with_reducible first | exact HB.out | apply below_alloc | apply pw_below_drewN | apply below_drew1 | refine below_set ?_ GE749.out | refine below_set ?_ GE750.out) | exact HB.out)⟩⟩
   ·replace c9 := Bool.eq_false_iff.mpr c9
    subst c9
    have H1 : (salvorlaw18_PlanOrder.j0 k true a0_0 a0_1 a0_2 a1_0 a1_1 a1_2 l1_3) = some r := by rw [if_neg (show ¬ (false = true) by decide)] at H; exact H
    clear H
    have H := H1
    clear H1
    have H' := Aside0.mk H
    clear H
    have hnb17 := NB750_749.out
    have hnc17 := NB749_750.out
    have hcz18_0 : w5.cell? ⟨gb750, 0, none⟩ = some (.int .i64 a1_0) := (blk_cell BK750.out 0).trans rfl
    have hcz18_1 : w5.cell? ⟨gb750, 1, none⟩ = some (.int .i64 a1_1) := (blk_cell BK750.out 1).trans rfl
    have hcz18_2 : w5.cell? ⟨gb750, 2, none⟩ = some (.int .u8 a1_2) := (blk_cell BK750.out 2).trans rfl
    have hcz18_3 : w5.cell? ⟨gb750, 3, none⟩ = some (.slice A1_3 l1_3.length c1_3) := (blk_cell BK750.out 3).trans rfl
    have hfz18_0 := blk_frozen BK750.out 0
    have hfz18_1 := blk_frozen BK750.out 1
    have hfz18_2 := blk_frozen BK750.out 2
    have hfz18_3 := blk_frozen BK750.out 3
    go_wp2_with (first | ((with_reducible refine gate_callee (f := 15) rfl ?_); refine gl_ (some 12) rfl rfl Try.func15 (by kernel_rfl) rfl #[.slice A1_3 l1_3.length c1_3] rfl ?_; (with_reducible refine (salvorlaw16_Few.calls _ _ l1_3 true _ ?side1 ?side2 A6.out).mono ?_); (case side1 => exact cb_ HR1_3 HB); (case side2 => exact HC1_3.out); rintro e w' ⟨rfl, ⟨nd, rfl⟩⟩; refine ⟨_, rfl, ?_⟩; have hcz19_0 : w5.cell? ⟨gb749, 0, none⟩ = some (.int .i64 a0_0) := (blk_cell BK749.out 0).trans rfl; have hcz19_1 : w5.cell? ⟨gb749, 1, none⟩ = some (.int .i64 a0_1) := (blk_cell BK749.out 1).trans rfl; have hcz19_2 : w5.cell? ⟨gb749, 2, none⟩ = some (.bool a0_2) := (blk_cell BK749.out 2).trans rfl; have hfz19_0 := blk_frozen BK749.out 0; have hfz19_1 := blk_frozen BK749.out 1; have hfz19_2 := blk_frozen BK749.out 2) | (go_at_call 14; (with_reducible refine (plan_May.calls a0_0 a0_1 a0_2 false _ A8.out).mono ?_); rintro e w20 ⟨rfl, hb⟩; replace BK749 := bb_ BK749 hb; replace BK750 := bb_ BK750 hb; replace HB := bs_ HB hb; (try clear hb); (try clear hb2); (try clear hk); (try clear hi)))
    go_meet
    case rel => exact ⟨_, (true), (by first | rfl | (simp; done) | (simp [*]; done)), H', ⟨by first | omega | exact Nat.le_refl _⟩, ⟨by (with_reducible repeat (first | refine blk_drewN ?_ _ | refine blk_drew ?_ | refine blk_alloc ?_ _)); exact BK749.out⟩, ⟨by (with_reducible repeat (first | refine blk_drewN ?_ _ | refine blk_drew ?_ | refine blk_alloc ?_ _)); exact BK750.out⟩, ⟨by repeat (first | (with_reducible first | exact HB.out | apply below_alloc | apply pw_below_drewN | apply below_drew1 | refine below_set ?_ GE749.out | refine below_set ?_ GE750.out) | exact HB.out)⟩⟩
  ·replace c7 := Bool.eq_false_iff.mpr c7
   subst c7
   have H1 : (salvorlaw18_PlanOrder.j0 k true a0_0 a0_1 a0_2 a1_0 a1_1 a1_2 l1_3) = some r := by rw [if_neg (show ¬ (false = true) by decide)] at H; exact H
   clear H
   have H := H1
   clear H1
   have H' := Aside0.mk H
   clear H
   have hnb21 := NB750_749.out
   have hnc21 := NB749_750.out
   have hcz22_0 : w5.cell? ⟨gb750, 0, none⟩ = some (.int .i64 a1_0) := (blk_cell BK750.out 0).trans rfl
   have hcz22_1 : w5.cell? ⟨gb750, 1, none⟩ = some (.int .i64 a1_1) := (blk_cell BK750.out 1).trans rfl
   have hcz22_2 : w5.cell? ⟨gb750, 2, none⟩ = some (.int .u8 a1_2) := (blk_cell BK750.out 2).trans rfl
   have hcz22_3 : w5.cell? ⟨gb750, 3, none⟩ = some (.slice A1_3 l1_3.length c1_3) := (blk_cell BK750.out 3).trans rfl
   have hfz22_0 := blk_frozen BK750.out 0
   have hfz22_1 := blk_frozen BK750.out 1
   have hfz22_2 := blk_frozen BK750.out 2
   have hfz22_3 := blk_frozen BK750.out 3
   go_wp2_with (first | ((with_reducible refine gate_callee (f := 15) rfl ?_); refine gl_ (some 12) rfl rfl Try.func15 (by kernel_rfl) rfl #[.slice A1_3 l1_3.length c1_3] rfl ?_; (with_reducible refine (salvorlaw16_Few.calls _ _ l1_3 false _ ?side1 ?side2 A6.out).mono ?_); (case side1 => exact cb_ HR1_3 HB); (case side2 => exact HC1_3.out); rintro e w' ⟨rfl, ⟨nd, rfl⟩⟩; refine ⟨_, rfl, ?_⟩))
   go_meet
   case rel => exact ⟨_, (true), (by first | rfl | (simp; done) | (simp [*]; done)), H', ⟨by first | omega | exact Nat.le_refl _⟩, ⟨by (with_reducible repeat (first | refine blk_drewN ?_ _ | refine blk_drew ?_ | refine blk_alloc ?_ _)); exact BK749.out⟩, ⟨by (with_reducible repeat (first | refine blk_drewN ?_ _ | refine blk_drew ?_ | refine blk_alloc ?_ _)); exact BK750.out⟩, ⟨by repeat (first | (with_reducible first | exact HB.out | apply below_alloc | apply pw_below_drewN | apply below_drew1 | refine below_set ?_ GE749.out | refine below_set ?_ GE750.out) | exact HB.out)⟩⟩
 case rest =>
  clear HC3
  try clear c1
  try clear c2
  try clear p2
  try clear c7
  try clear c9
  try clear c11
  try clear c15
  try clear c17
  try clear c21
  try clear hcz12_0
  try clear hcz12_1
  try clear hcz12_2
  try clear hcz12_3
  try clear hcz13_0
  try clear hcz13_1
  try clear hcz13_2
  try clear hcz15_0
  try clear hcz15_1
  try clear hcz15_2
  try clear hcz15_3
  try clear hcz18_0
  try clear hcz18_1
  try clear hcz18_2
  try clear hcz18_3
  try clear hcz19_0
  try clear hcz19_1
  try clear hcz19_2
  try clear hcz22_0
  try clear hcz22_1
  try clear hcz22_2
  try clear hcz22_3
  try clear hfz12_0
  try clear hfz12_1
  try clear hfz12_2
  try clear hfz12_3
  try clear hfz13_0
  try clear hfz13_1
  try clear hfz13_2
  try clear hfz15_0
  try clear hfz15_1
  try clear hfz15_2
  try clear hfz15_3
  try clear hfz18_0
  try clear hfz18_1
  try clear hfz18_2
  try clear hfz18_3
  try clear hfz19_0
  try clear hfz19_1
  try clear hfz19_2
  try clear hfz22_0
  try clear hfz22_1
  try clear hfz22_2
  try clear hfz22_3
  obtain ⟨kq, x23_2, rfl, HA, HJ2, BK749, BK750, HB⟩ := hcut
  cases kq with
  | zero => exact absurd HA.out (by simp [salvorlaw18_PlanOrder.j0])
  | succ kj2 =>
   have H := HA.out
   clear HA
   simp only [salvorlaw18_PlanOrder.j0] at H
   by_cases c23 : x23_2 = true
   ·subst c23
    have H1 : ((salvorlaw18_PlanRuns.f kj2).bind fun t754 => (some t754)) = some r := by rw [if_pos rfl] at H; exact H
    clear H
    have H := H1
    clear H1
    replace H := Option.bind_eq_some_iff.mp H
    obtain ⟨t754, A240, H⟩ := H
    replace H : (some t754) = some r := H
    have A24 := Aside0.mk A240
    clear A240
    obtain rfl := Option.some.inj H
    go_wp2_with (first | ((with_reducible refine gate_callee (f := 3) rfl ?_); refine gl_ (some 24) rfl rfl Try.func3 (by kernel_rfl) rfl #[] rfl ?_; (with_reducible refine (salvorlaw18_PlanRuns.calls kj2  t754 _ A24.out).mono ?_); rintro e w25 ⟨rfl, hb⟩; refine ⟨_, rfl, ?_⟩; replace BK749 := bb_ BK749 hb; replace BK750 := bb_ BK750 hb; replace HB := bs_ HB hb; (try clear hb); (try clear hb2); (try clear hk); (try clear hi)))
    go_ret
    exact ⟨by first | rfl | (simp [errW_none, errW_some] <;> rfl) | (simp [*, errW_none, errW_some] <;> rfl), bh_ HB⟩
   ·replace c23 := Bool.eq_false_iff.mpr c23
    subst c23
    have H1 : ((plan_Next.f kj2 a0_0 a0_1 a0_2 a1_0 a1_1 a1_2 l1_3).bind fun bt755 => ((region_Count.f kj2 l1_3 (([63] : List Int))).bind fun t762 => (if t762 > 0 then (salvorlaw18_PlanOrder.j2 kj2 1 a0_0 a0_1 a0_2 a1_0 a1_1 a1_2 l1_3 bt755.1 bt755.2.1 bt755.2.2) else ((region_Count.f kj2 l1_3 (([42] : List Int))).bind fun t766 => (if t766 > 0 then (salvorlaw18_PlanOrder.j2 kj2 2 a0_0 a0_1 a0_2 a1_0 a1_1 a1_2 l1_3 bt755.1 bt755.2.1 bt755.2.2) else ((region_Count.f kj2 l1_3 (([47] : List Int))).bind fun t770 => (if t770 > 0 then (salvorlaw18_PlanOrder.j2 kj2 3 a0_0 a0_1 a0_2 a1_0 a1_1 a1_2 l1_3 bt755.1 bt755.2.1 bt755.2.2) else ((region_Count.f kj2 l1_3 (([45] : List Int))).bind fun t774 => (if t774 > 0 then (salvorlaw18_PlanOrder.j1 kj2 0 (decide (a1_1 < a0_1)) a0_0 a0_1 a0_2 a1_0 a1_1 a1_2 l1_3 bt755.1 bt755.2.1 bt755.2.2) else (salvorlaw18_PlanOrder.j1 kj2 0 false a0_0 a0_1 a0_2 a1_0 a1_1 a1_2 l1_3 bt755.1 bt755.2.1 bt755.2.2)))))))))) = some r := by rw [if_neg (show ¬ (false = true) by decide)] at H; exact H
    clear H
    have H := H1
    clear H1
    replace H := Option.bind_eq_some_iff.mp H
    obtain ⟨⟨t755, t756, t757⟩, A260, H⟩ := H
    replace H : ((region_Count.f kj2 l1_3 (([63] : List Int))).bind fun t762 => (if t762 > 0 then (salvorlaw18_PlanOrder.j2 kj2 1 a0_0 a0_1 a0_2 a1_0 a1_1 a1_2 l1_3 t755 t756 t757) else ((region_Count.f kj2 l1_3 (([42] : List Int))).bind fun t766 => (if t766 > 0 then (salvorlaw18_PlanOrder.j2 kj2 2 a0_0 a0_1 a0_2 a1_0 a1_1 a1_2 l1_3 t755 t756 t757) else ((region_Count.f kj2 l1_3 (([47] : List Int))).bind fun t770 => (if t770 > 0 then (salvorlaw18_PlanOrder.j2 kj2 3 a0_0 a0_1 a0_2 a1_0 a1_1 a1_2 l1_3 t755 t756 t757) else ((region_Count.f kj2 l1_3 (([45] : List Int))).bind fun t774 => (if t774 > 0 then (salvorlaw18_PlanOrder.j1 kj2 0 (decide (a1_1 < a0_1)) a0_0 a0_1 a0_2 a1_0 a1_1 a1_2 l1_3 t755 t756 t757) else (salvorlaw18_PlanOrder.j1 kj2 0 false a0_0 a0_1 a0_2 a1_0 a1_1 a1_2 l1_3 t755 t756 t757))))))))) = some r := H
    have A26 := Aside0.mk A260
    clear A260
    have HC27 := Aside0.mk H
    clear H
    have hnb28 := NB749_750.out
    have hnc28 := NB750_749.out
    have hcz29_0 : wc.cell? ⟨gb749, 0, none⟩ = some (.int .i64 a0_0) := (blk_cell BK749.out 0).trans rfl
    have hcz29_1 : wc.cell? ⟨gb749, 1, none⟩ = some (.int .i64 a0_1) := (blk_cell BK749.out 1).trans rfl
    have hcz29_2 : wc.cell? ⟨gb749, 2, none⟩ = some (.bool a0_2) := (blk_cell BK749.out 2).trans rfl
    have hfz29_0 := blk_frozen BK749.out 0
    have hfz29_1 := blk_frozen BK749.out 1
    have hfz29_2 := blk_frozen BK749.out 2
    have hcz30_0 : wc.cell? ⟨gb750, 0, none⟩ = some (.int .i64 a1_0) := (blk_cell BK750.out 0).trans rfl
    have hcz30_1 : wc.cell? ⟨gb750, 1, none⟩ = some (.int .i64 a1_1) := (blk_cell BK750.out 1).trans rfl
    have hcz30_2 : wc.cell? ⟨gb750, 2, none⟩ = some (.int .u8 a1_2) := (blk_cell BK750.out 2).trans rfl
    have hcz30_3 : wc.cell? ⟨gb750, 3, none⟩ = some (.slice A1_3 l1_3.length c1_3) := (blk_cell BK750.out 3).trans rfl
    have hfz30_0 := blk_frozen BK750.out 0
    have hfz30_1 := blk_frozen BK750.out 1
    have hfz30_2 := blk_frozen BK750.out 2
    have hfz30_3 := blk_frozen BK750.out 3
    go_upto_block 0 with (first | ((with_reducible refine gate_callee (f := 12) rfl ?_); refine gl_ (some 27) rfl rfl Try.func12 (by kernel_rfl) rfl #[.agg #[.int .i64 a0_0, .int .i64 a0_1, .bool a0_2], .agg #[.int .i64 a1_0, .int .i64 a1_1, .int .u8 a1_2, .slice A1_3 l1_3.length c1_3]] rfl ?_; (with_reducible refine (plan_Next.calls kj2 a0_0 a0_1 a0_2 a1_0 a1_1 a1_2 _ _ l1_3 t755 t756 t757 _ ?side1 ?side2 A26.out).mono ?_); (case side1 => exact cb_ HR1_3 HB); (case side2 => exact HC1_3.out); rintro e w31 ⟨rfl, hb⟩; refine ⟨_, rfl, ?_⟩; replace BK749 := bb_ BK749 hb; replace BK750 := bb_ BK750 hb; replace HB := bs_ HB hb; (try clear hb); (try clear hb2); (try clear hk); (try clear hi)) | ((with_reducible refine gate_dst (N := 5) rfl ?_); (try (refine gate_guard (by rfl) ?_; dsimp only)); refine box_e 5 #[.int .i64 0, .int .i64 0, .int .i64 0] 29 ?_; intro gb758 hg w32 hbox hb; have BK758 := Aside0.mk hbox; have GW758 := bg_ HB hg; have GE758 := bg_ HB hg; have NB749_758 := bn_ BK749 hg; have NB758_749 := bm_ BK749 hg; have NB750_758 := bn_ BK750 hg; have NB758_750 := bm_ BK750 hg; replace BK749 := bb_ BK749 hb; replace BK750 := bb_ BK750 hb; replace HB := bs_ HB hb; clear hb hbox hg; have hnb33 := NB758_749.out; have hnc33 := NB749_758.out; have hnb34 := NB758_750.out; have hnc34 := NB750_758.out; have hcz35_0 : w32.cell? ⟨gb758, 0, none⟩ = some (.int .i64 0) := (blk_cell BK758.out 0).trans rfl; have hcz35_1 : w32.cell? ⟨gb758, 1, none⟩ = some (.int .i64 0) := (blk_cell BK758.out 1).trans rfl; have hcz35_2 : w32.cell? ⟨gb758, 2, none⟩ = some (.int .i64 0) := (blk_cell BK758.out 2).trans rfl; have hfz35_0 := blk_frozen BK758.out 0; have hfz35_1 := blk_frozen BK758.out 1; have hfz35_2 := blk_frozen BK758.out 2))
    (try simp only [Act.put, List.setIfInBounds_toArray, List.set_cons_zero, List.set_cons_succ])
    go_cut [6] (fun v6 wc => ∃ (kq : Nat) (x6_26 : Int), v6 = .int .i64 x6_26 ∧ Aside0 (salvorlaw18_PlanOrder.j2 kq x6_26 a0_0 a0_1 a0_2 a1_0 a1_1 a1_2 l1_3 t755 t756 t757 = some r) ∧ Aside0 (kq ≤ kj2) ∧ Aside0 (wc.heap[gb749]? = some (.cells #[.int .i64 a0_0, .int .i64 a0_1, .bool a0_2] 23 (0, 0))) ∧ Aside0 (wc.heap[gb750]? = some (.cells #[.int .i64 a1_0, .int .i64 a1_1, .int .u8 a1_2, (.slice A1_3 l1_3.length c1_3)] 26 (0, 0))) ∧ Aside0 (wc.heap[gb758]? = some (.cells #[.int .i64 t755, .int .i64 t756, .int .i64 t757] 29 (0, 0))) ∧ Aside0 (Below w.heap.size w wc))
    case first =>
     have H := HC27.out
     clear HC27
     obtain ⟨y759, hy759⟩ : ∃ y_ : List Int, y_ = (([63] : List Int)) := ⟨_, rfl⟩
     replace H : ((region_Count.f kj2 l1_3 y759).bind fun t762 => (if t762 > 0 then (salvorlaw18_PlanOrder.j2 kj2 1 a0_0 a0_1 a0_2 a1_0 a1_1 a1_2 l1_3 t755 t756 t757) else ((region_Count.f kj2 l1_3 (([42] : List Int))).bind fun t766 => (if t766 > 0 then (salvorlaw18_PlanOrder.j2 kj2 2 a0_0 a0_1 a0_2 a1_0 a1_1 a1_2 l1_3 t755 t756 t757) else ((region_Count.f kj2 l1_3 (([47] : List Int))).bind fun t770 => (if t770 > 0 then (salvorlaw18_PlanOrder.j2 kj2 3 a0_0 a0_1 a0_2 a1_0 a1_1 a1_2 l1_3 t755 t756 t757) else ((region_Count.f kj2 l1_3 (([45] : List Int))).bind fun t774 => (if t774 > 0 then (salvorlaw18_PlanOrder.j1 kj2 0 (decide (a1_1 < a0_1)) a0_0 a0_1 a0_2 a1_0 a1_1 a1_2 l1_3 t755 t756 t757) else (salvorlaw18_PlanOrder.j1 kj2 0 false a0_0 a0_1 a0_2 a1_0 a1_1 a1_2 l1_3 t755 t756 t757))))))))) = some r := by first | (rw [hy759]; with_reducible exact H) | (have H2_ := (Option.bind_some _ _).symm.trans H; rw [hy759]; with_reducible exact H2_) | (have H2_ := (Option.bind_some _ _).symm.trans H; with_reducible exact H2_) | with_reducible exact H | (rw [hy759]; exact H) | exact H
     have Ny759 := Aside0.mk hy759
     clear hy759
     replace H := Option.bind_eq_some_iff.mp H
     obtain ⟨t762, A360, H⟩ := H
     replace H : (if t762 > 0 then (salvorlaw18_PlanOrder.j2 kj2 1 a0_0 a0_1 a0_2 a1_0 a1_1 a1_2 l1_3 t755 t756 t757) else ((region_Count.f kj2 l1_3 (([42] : List Int))).bind fun t766 => (if t766 > 0 then (salvorlaw18_PlanOrder.j2 kj2 2 a0_0 a0_1 a0_2 a1_0 a1_1 a1_2 l1_3 t755 t756 t757) else ((region_Count.f kj2 l1_3 (([47] : List Int))).bind fun t770 => (if t770 > 0 then (salvorlaw18_PlanOrder.j2 kj2 3 a0_0 a0_1 a0_2 a1_0 a1_1 a1_2 l1_3 t755 t756 t757) else ((region_Count.f kj2 l1_3 (([45] : List Int))).bind fun t774 => (if t774 > 0 then (salvorlaw18_PlanOrder.j1 kj2 0 (decide (a1_1 < a0_1)) a0_0 a0_1 a0_2 a1_0 a1_1 a1_2 l1_3 t755 t756 t757) else (salvorlaw18_PlanOrder.j1 kj2 0 false a0_0 a0_1 a0_2 a1_0 a1_1 a1_2 l1_3 t755 t756 t757)))))))) = some r := H
     have A36 := Aside0.mk A360
     clear A360
     by_cases c37 : t762 > 0
     ·rw [if_pos c37] at H
      have c37b0 : decide (0 < t762) = true := decide_eq_true c37
      clear c37
      (first | rw [c37b0] | (simp only [i64_w, i32_w]; rw [c37b0]) | skip)
      have H' := Aside0.mk H
      clear H
      have hnb38 := NB750_749.out
      have hnc38 := NB749_750.out
      have hnb39 := NB750_758.out
      have hnc39 := NB758_750.out
      have hcz40_0 : w32.cell? ⟨gb750, 0, none⟩ = some (.int .i64 a1_0) := (blk_cell BK750.out 0).trans rfl
      have hcz40_1 : w32.cell? ⟨gb750, 1, none⟩ = some (.int .i64 a1_1) := (blk_cell BK750.out 1).trans rfl
      have hcz40_2 : w32.cell? ⟨gb750, 2, none⟩ = some (.int .u8 a1_2) := (blk_cell BK750.out 2).trans rfl
      have hcz40_3 : w32.cell? ⟨gb750, 3, none⟩ = some (.slice A1_3 l1_3.length c1_3) := (blk_cell BK750.out 3).trans rfl
      have hfz40_0 := blk_frozen BK750.out 0
      have hfz40_1 := blk_frozen BK750.out 1
      have hfz40_2 := blk_frozen BK750.out 2
      have hfz40_3 := blk_frozen BK750.out 3
      go_wp2_with (first | ((with_reducible refine gate_dst (N := 31) rfl ?_); (try (refine gate_guard (by rfl) ?_; dsimp only)); refine Kd.R_lit (Kd.int .u8) _ 5 ?hg (N := 31) ?hd (xs := ([63] : List Int)) (inner := [.int .u8 63]) (ok := fun _ => True) (okp := fun _ => True) ?hr ?hp (fun _ hk => hk) trivial (Below.refl _ _) (Nat.le_refl _) (by simp) ?_; (case hd => rfl); (case hg => rfl); (case hr => first | (go_simp; done) | (go_simp; rfl)); (case hp => exact (Reps.one (show Kd.M (Kd.int .u8) _ _ _ 63 [.int .u8 63] from rfl) (Reps.none _ _))); intro v760 w41 ho42 hb hg_ hnew_; clear hg_ hnew_; (first | rw [← Ny759.out] at ho42 | (simp only [Int.reduceToNat] at ho42; rw [← Ny759.out] at ho42)); have HO761 := Aside0.mk (Kd.R_lower ho42 (below_size (bh_ HB))); replace BK749 := Aside0.mk (blk_below (g := gb749) (o := .cells #[.int .i64 a0_0, .int .i64 a0_1, .bool a0_2] 23 (0, 0)) (bp_ BK749) hb); replace BK750 := Aside0.mk (blk_below (g := gb750) (o := .cells #[.int .i64 a1_0, .int .i64 a1_1, .int .u8 a1_2, .slice A1_3 l1_3.length c1_3] 26 (0, 0)) (bp_ BK750) hb); replace BK758 := Aside0.mk (blk_below (g := gb758) (o := .cells #[.int .i64 t755, .int .i64 t756, .int .i64 t757] 29 (0, 0)) (bp_ BK758) hb); replace HB := bs_ HB hb; clear hb ho42; obtain ⟨Ao43, co43, eo43⟩ := Kd.R_slice HO761.out; subst eo43) | ((with_reducible refine gate_callee (f := 31) rfl ?_); refine gl_ (some 32) rfl rfl Try.func31 (by kernel_rfl) rfl #[.slice A1_3 l1_3.length c1_3, .slice Ao43 y759.length co43] rfl ?_; (with_reducible refine (region_Count.calls kj2 _ _ l1_3 _ _ y759 t762 _ ?side1 ?side2 ?side3 ?side4 A36.out).mono ?_); (case side1 => exact cb_ HR1_3 HB); (case side2 => exact HC1_3.out); (case side3 => repeat (first | exact (Kd.R_reads' HO761.out).2.2 | (with_reducible refine Kd.C_alloc ?_ _) | (with_reducible refine Kd.C_drewN ?_ _) | (with_reducible refine Kd.C_drew ?_))); (case side4 => exact (Kd.R_reads' HO761.out).2.1); rintro e w44 ⟨rfl, hb⟩; refine ⟨_, rfl, ?_⟩; have n0_ := Aside0.mk (Kd.R_below (by (with_reducible repeat (first | apply Kd.R_alloc | apply Kd.R_drewN | apply Kd.R_drew)); exact HO761.out) hb); have n1_ := bb_ BK749 hb; have n2_ := bb_ BK750 hb; have n3_ := bb_ BK758 hb; have n4_ := bs_ HB hb; clear HO761; clear BK749; clear BK750; clear BK758; clear HB; have HO761 := n0_; have BK749 := n1_; have BK750 := n2_; have BK758 := n3_; have HB := n4_; clear n0_ n1_ n2_ n3_ n4_; (try clear hb); (try clear hb2); (try clear hk); (try clear hi)))
      go_meet
      case rel => exact ⟨_, (1), (by first | rfl | (simp; done) | (simp [*]; done)), H', ⟨by have := HJ2.out; first | omega | exact Nat.le_refl _⟩, ⟨by (with_reducible repeat (first | refine blk_drewN ?_ _ | refine blk_drew ?_ | refine blk_alloc ?_ _)); exact BK749.out⟩, ⟨by (with_reducible repeat (first | refine blk_drewN ?_ _ | refine blk_drew ?_ | refine blk_alloc ?_ _)); exact BK750.out⟩, ⟨by (with_reducible repeat (first | refine blk_drewN ?_ _ | refine blk_drew ?_ | refine blk_alloc ?_ _)); exact BK758.out⟩, ⟨by repeat (first | (with_reducible first | exact HB.out | apply below_alloc | apply pw_below_drewN | apply below_drew1 | refine below_set ?_ GE749.out | refine below_set ?_ GE750.out | refine below_set ?_ GE758.out) | exact HB.out)⟩⟩
     ·rw [if_neg c37] at H
      have c37b0 : decide (0 < t762) = false := decide_eq_false c37
      clear c37
      (first | rw [c37b0] | (simp only [i64_w, i32_w]; rw [c37b0]) | skip)
      obtain ⟨y763, hy763⟩ : ∃ y_ : List Int, y_ = (([42] : List Int)) := ⟨_, rfl⟩
      replace H : ((region_Count.f kj2 l1_3 y763).bind fun t766 => (if t766 > 0 then (salvorlaw18_PlanOrder.j2 kj2 2 a0_0 a0_1 a0_2 a1_0 a1_1 a1_2 l1_3 t755 t756 t757) else ((region_Count.f kj2 l1_3 (([47] : List Int))).bind fun t770 => (if t770 > 0 then (salvorlaw18_PlanOrder.j2 kj2 3 a0_0 a0_1 a0_2 a1_0 a1_1 a1_2 l1_3 t755 t756 t757) else ((region_Count.f kj2 l1_3 (([45] : List Int))).bind fun t774 => (if t774 > 0 then (salvorlaw18_PlanOrder.j1 kj2 0 (decide (a1_1 < a0_1)) a0_0 a0_1 a0_2 a1_0 a1_1 a1_2 l1_3 t755 t756 t757) else (salvorlaw18_PlanOrder.j1 kj2 0 false a0_0 a0_1 a0_2 a1_0 a1_1 a1_2 l1_3 t755 t756 t757))))))) = some r := by first | (rw [hy763]; with_reducible exact H) | (have H2_ := (Option.bind_some _ _).symm.trans H; rw [hy763]; with_reducible exact H2_) | (have H2_ := (Option.bind_some _ _).symm.trans H; with_reducible exact H2_) | with_reducible exact H | (rw [hy763]; exact H) | exact H
      have Ny763 := Aside0.mk hy763
      clear hy763
      replace H := Option.bind_eq_some_iff.mp H
      obtain ⟨t766, A450, H⟩ := H
      replace H : (if t766 > 0 then (salvorlaw18_PlanOrder.j2 kj2 2 a0_0 a0_1 a0_2 a1_0 a1_1 a1_2 l1_3 t755 t756 t757) else ((region_Count.f kj2 l1_3 (([47] : List Int))).bind fun t770 => (if t770 > 0 then (salvorlaw18_PlanOrder.j2 kj2 3 a0_0 a0_1 a0_2 a1_0 a1_1 a1_2 l1_3 t755 t756 t757) else ((region_Count.f kj2 l1_3 (([45] : List Int))).bind fun t774 => (if t774 > 0 then (salvorlaw18_PlanOrder.j1 kj2 0 (decide (a1_1 < a0_1)) a0_0 a0_1 a0_2 a1_0 a1_1 a1_2 l1_3 t755 t756 t757) else (salvorlaw18_PlanOrder.j1 kj2 0 false a0_0 a0_1 a0_2 a1_0 a1_1 a1_2 l1_3 t755 t756 t757)))))) = some r := H
      have A45 := Aside0.mk A450
      clear A450
      by_cases c46 : t766 > 0
      ·rw [if_pos c46] at H
       have c46b0 : decide (0 < t766) = true := decide_eq_true c46
       clear c46
       have H' := Aside0.mk H
       clear H
       have hnb47 := NB750_749.out
       have hnc47 := NB749_750.out
       have hnb48 := NB750_758.out
       have hnc48 := NB758_750.out
       have hcz49_0 : w32.cell? ⟨gb750, 0, none⟩ = some (.int .i64 a1_0) := (blk_cell BK750.out 0).trans rfl
       have hcz49_1 : w32.cell? ⟨gb750, 1, none⟩ = some (.int .i64 a1_1) := (blk_cell BK750.out 1).trans rfl
       have hcz49_2 : w32.cell? ⟨gb750, 2, none⟩ = some (.int .u8 a1_2) := (blk_cell BK750.out 2).trans rfl
       have hcz49_3 : w32.cell? ⟨gb750, 3, none⟩ = some (.slice A1_3 l1_3.length c1_3) := (blk_cell BK750.out 3).trans rfl
       have hfz49_0 := blk_frozen BK750.out 0
       have hfz49_1 := blk_frozen BK750.out 1
       have hfz49_2 := blk_frozen BK750.out 2
       have hfz49_3 := blk_frozen BK750.out 3
       go_wp2_with (first | ((with_reducible refine gate_dst (N := 31) rfl ?_); (try (refine gate_guard (by rfl) ?_; dsimp only)); refine Kd.R_lit (Kd.int .u8) _ 5 ?hg (N := 31) ?hd (xs := ([63] : List Int)) (inner := [.int .u8 63]) (ok := fun _ => True) (okp := fun _ => True) ?hr ?hp (fun _ hk => hk) trivial (Below.refl _ _) (Nat.le_refl _) (by simp) ?_; (case hd => rfl); (case hg => rfl); (case hr => first | (go_simp; done) | (go_simp; rfl)); (case hp => exact (Reps.one (show Kd.M (Kd.int .u8) _ _ _ 63 [.int .u8 63] from rfl) (Reps.none _ _))); intro v760 w50 ho51 hb hg_ hnew_; clear hg_ hnew_; (first | rw [← Ny759.out] at ho51 | (simp only [Int.reduceToNat] at ho51; rw [← Ny759.out] at ho51)); have HO761 := Aside0.mk (Kd.R_lower ho51 (below_size (bh_ HB))); replace BK749 := Aside0.mk (blk_below (g := gb749) (o := .cells #[.int .i64 a0_0, .int .i64 a0_1, .bool a0_2] 23 (0, 0)) (bp_ BK749) hb); replace BK750 := Aside0.mk (blk_below (g := gb750) (o := .cells #[.int .i64 a1_0, .int .i64 a1_1, .int .u8 a1_2, .slice A1_3 l1_3.length c1_3] 26 (0, 0)) (bp_ BK750) hb); replace BK758 := Aside0.mk (blk_below (g := gb758) (o := .cells #[.int .i64 t755, .int .i64 t756, .int .i64 t757] 29 (0, 0)) (bp_ BK758) hb); replace HB := bs_ HB hb; clear hb ho51; obtain ⟨Ao52, co52, eo52⟩ := Kd.R_slice HO761.out; subst eo52) | ((with_reducible refine gate_callee (f := 31) rfl ?_); refine gl_ (some 32) rfl rfl Try.func31 (by kernel_rfl) rfl #[.slice A1_3 l1_3.length c1_3, .slice Ao52 y759.length co52] rfl ?_; (with_reducible refine (region_Count.calls kj2 _ _ l1_3 _ _ y759 t762 _ ?side1 ?side2 ?side3 ?side4 A36.out).mono ?_); (case side1 => exact cb_ HR1_3 HB); (case side2 => exact HC1_3.out); (case side3 => repeat (first | exact (Kd.R_reads' HO761.out).2.2 | (with_reducible refine Kd.C_alloc ?_ _) | (with_reducible refine Kd.C_drewN ?_ _) | (with_reducible refine Kd.C_drew ?_))); (case side4 => exact (Kd.R_reads' HO761.out).2.1); rintro e w53 ⟨rfl, hb⟩; refine ⟨_, rfl, ?_⟩; have n0_ := Aside0.mk (Kd.R_below (by (with_reducible repeat (first | apply Kd.R_alloc | apply Kd.R_drewN | apply Kd.R_drew)); exact HO761.out) hb); have n1_ := bb_ BK749 hb; have n2_ := bb_ BK750 hb; have n3_ := bb_ BK758 hb; have n4_ := bs_ HB hb; clear HO761; clear BK749; clear BK750; clear BK758; clear HB; have HO761 := n0_; have BK749 := n1_; have BK750 := n2_; have BK758 := n3_; have HB := n4_; clear n0_ n1_ n2_ n3_ n4_; (try clear hb); (try clear hb2); (try clear hk); (try clear hi); have hcz54_0 : w53.cell? ⟨gb750, 0, none⟩ = some (.int .i64 a1_0) := (blk_cell BK750.out 0).trans rfl; have hcz54_1 : w53.cell? ⟨gb750, 1, none⟩ = some (.int .i64 a1_1) := (blk_cell BK750.out 1).trans rfl; have hcz54_2 : w53.cell? ⟨gb750, 2, none⟩ = some (.int .u8 a1_2) := (blk_cell BK750.out 2).trans rfl; have hcz54_3 : w53.cell? ⟨gb750, 3, none⟩ = some (.slice A1_3 l1_3.length c1_3) := (blk_cell BK750.out 3).trans rfl; have hfz54_0 := blk_frozen BK750.out 0; have hfz54_1 := blk_frozen BK750.out 1; have hfz54_2 := blk_frozen BK750.out 2; have hfz54_3 := blk_frozen BK750.out 3) | ((with_reducible refine gate_dst (N := 37) rfl ?_); (try (refine gate_guard (by rfl) ?_; dsimp only)); refine Kd.R_lit (Kd.int .u8) _ 5 ?hg (N := 37) ?hd (xs := ([42] : List Int)) (inner := [.int .u8 42]) (ok := fun _ => True) (okp := fun _ => True) ?hr ?hp (fun _ hk => hk) trivial (Below.refl _ _) (Nat.le_refl _) (by simp) ?_; (case hd => rfl); (case hg => rfl); (case hr => first | (go_simp; done) | (go_simp; rfl)); (case hp => exact (Reps.one (show Kd.M (Kd.int .u8) _ _ _ 42 [.int .u8 42] from rfl) (Reps.none _ _))); intro v764 w55 ho56 hb hg_ hnew_; clear hg_ hnew_; (first | rw [← Ny763.out] at ho56 | (simp only [Int.reduceToNat] at ho56; rw [← Ny763.out] at ho56)); have n0_ := Aside0.mk (Kd.R_elder' (by (with_reducible repeat (first | apply Kd.R_alloc | apply Kd.R_drewN | apply Kd.R_drew)); exact HO761.out) (Kd.R_base ho56) hb); have n1_ := Aside0.mk (Kd.R_lower (Kd.R_new' ho56 (Kd.R_lt (by (with_reducible repeat (first | apply Kd.R_alloc | apply Kd.R_drewN | apply Kd.R_drew)); exact HO761.out))) (below_size (bh_ HB))); have n2_ := bb_ BK749 hb; have n3_ := bb_ BK750 hb; have n4_ := bb_ BK758 hb; have n5_ := bs_ HB hb; clear HO761; clear BK749; clear BK750; clear BK758; clear HB; have HO761 := n0_; have HO765 := n1_; have BK749 := n2_; have BK750 := n3_; have BK758 := n4_; have HB := n5_; clear n0_ n1_ n2_ n3_ n4_ n5_; clear hb ho56; obtain ⟨Ao57, co57, eo57⟩ := Kd.R_slice HO765.out; subst eo57) | ((with_reducible refine gate_callee (f := 31) rfl ?_); refine gl_ (some 38) rfl rfl Try.func31 (by kernel_rfl) rfl #[.slice A1_3 l1_3.length c1_3, .slice Ao57 y763.length co57] rfl ?_; (with_reducible refine (region_Count.calls kj2 _ _ l1_3 _ _ y763 t766 _ ?side1 ?side2 ?side3 ?side4 A45.out).mono ?_); (case side1 => exact cb_ HR1_3 HB); (case side2 => exact HC1_3.out); (case side3 => repeat (first | exact (Kd.R_reads' HO765.out).2.2 | (with_reducible refine Kd.C_alloc ?_ _) | (with_reducible refine Kd.C_drewN ?_ _) | (with_reducible refine Kd.C_drew ?_))); (case side4 => exact (Kd.R_reads' HO765.out).2.1); rintro e w58 ⟨rfl, hb⟩; refine ⟨_, rfl, ?_⟩; have n0_ := Aside0.mk (Kd.R_below (by (with_reducible repeat (first | apply Kd.R_alloc | apply Kd.R_drewN | apply Kd.R_drew)); exact HO761.out) hb); have n1_ := Aside0.mk (Kd.R_below (by (with_reducible repeat (first | apply Kd.R_alloc | apply Kd.R_drewN | apply Kd.R_drew)); exact HO765.out) hb); have n2_ := bb_ BK749 hb; have n3_ := bb_ BK750 hb; have n4_ := bb_ BK758 hb; have n5_ := bs_ HB hb; clear HO761; clear HO765; clear BK749; clear BK750; clear BK758; clear HB; have HO761 := n0_; have HO765 := n1_; have BK749 := n2_; have BK750 := n3_; have BK758 := n4_; have HB := n5_; clear n0_ n1_ n2_ n3_ n4_ n5_; (try clear hb); (try clear hb2); (try clear hk); (try clear hi)))
       go_meet
       case rel => exact ⟨_, (2), (by first | rfl | (simp; done) | (simp [*]; done)), H', ⟨by have := HJ2.out; first | omega | exact Nat.le_refl _⟩, ⟨by (with_reducible repeat (first | refine blk_drewN ?_ _ | refine blk_drew ?_ | refine blk_alloc ?_ _)); exact BK749.out⟩, ⟨by (with_reducible repeat (first | refine blk_drewN ?_ _ | refine blk_drew ?_ | refine blk_alloc ?_ _)); exact BK750.out⟩, ⟨by (with_reducible repeat (first | refine blk_drewN ?_ _ | refine blk_drew ?_ | refine blk_alloc ?_ _)); exact BK758.out⟩, ⟨by repeat (first | (with_reducible first | exact HB.out | apply below_alloc | apply pw_below_drewN | apply below_drew1 | refine below_set ?_ GE749.out | refine below_set ?_ GE750.out | refine below_set ?_ GE758.out) | exact HB.out)⟩⟩
      ·rw [if_neg c46] at H
       have c46b0 : decide (0 < t766) = false := decide_eq_false c46
       clear c46
       obtain ⟨y767, hy767⟩ : ∃ y_ : List Int, y_ = (([47] : List Int)) := ⟨_, rfl⟩
       replace H : ((region_Count.f kj2 l1_3 y767).bind fun t770 => (if t770 > 0 then (salvorlaw18_PlanOrder.j2 kj2 3 a0_0 a0_1 a0_2 a1_0 a1_1 a1_2 l1_3 t755 t756 t757) else ((region_Count.f kj2 l1_3 (([45] : List Int))).bind fun t774 => (if t774 > 0 then (salvorlaw18_PlanOrder.j1 kj2 0 (decide (a1_1 < a0_1)) a0_0 a0_1 a0_2 a1_0 a1_1 a1_2 l1_3 t755 t756 t757) else (salvorlaw18_PlanOrder.j1 kj2 0 false a0_0 a0_1 a0_2 a1_0 a1_1 a1_2 l1_3 t755 t756 t757))))) = some r := by first | (rw [hy767]; with_reducible exact H) | (have H2_ := (Option.bind_some _ _).symm.trans H; rw [hy767]; with_reducible exact H2_) | (have H2_ := (Option.bind_some _ _).symm.trans H; with_reducible exact H2_) | with_reducible exact H | (rw [hy767]; exact H) | exact H
       have Ny767 := Aside0.mk hy767
       clear hy767
       replace H := Option.bind_eq_some_iff.mp H
       obtain ⟨t770, A590, H⟩ := H
       replace H : (if t770 > 0 then (salvorlaw18_PlanOrder.j2 kj2 3 a0_0 a0_1 a0_2 a1_0 a1_1 a1_2 l1_3 t755 t756 t757) else ((region_Count.f kj2 l1_3 (([45] : List Int))).bind fun t774 => (if t774 > 0 then (salvorlaw18_PlanOrder.j1 kj2 0 (decide (a1_1 < a0_1)) a0_0 a0_1 a0_2 a1_0 a1_1 a1_2 l1_3 t755 t756 t757) else (salvorlaw18_PlanOrder.j1 kj2 0 false a0_0 a0_1 a0_2 a1_0 a1_1 a1_2 l1_3 t755 t756 t757)))) = some r := H
       have A59 := Aside0.mk A590
       clear A590
       by_cases c60 : t770 > 0
       ·rw [if_pos c60] at H
        have c60b0 : decide (0 < t770) = true := decide_eq_true c60
        clear c60
        have H' := Aside0.mk H
        clear H
        have hnb61 := NB750_749.out
        have hnc61 := NB749_750.out
        have hnb62 := NB750_758.out
        have hnc62 := NB758_750.out
        have hcz63_0 : w32.cell? ⟨gb750, 0, none⟩ = some (.int .i64 a1_0) := (blk_cell BK750.out 0).trans rfl
        have hcz63_1 : w32.cell? ⟨gb750, 1, none⟩ = some (.int .i64 a1_1) := (blk_cell BK750.out 1).trans rfl
        have hcz63_2 : w32.cell? ⟨gb750, 2, none⟩ = some (.int .u8 a1_2) := (blk_cell BK750.out 2).trans rfl
        have hcz63_3 : w32.cell? ⟨gb750, 3, none⟩ = some (.slice A1_3 l1_3.length c1_3) := (blk_cell BK750.out 3).trans rfl
        have hfz63_0 := blk_frozen BK750.out 0
        have hfz63_1 := blk_frozen BK750.out 1
        have hfz63_2 := blk_frozen BK750.out 2
        have hfz63_3 := blk_frozen BK750.out 3
        go_wp2_with (first | ((with_reducible refine gate_dst (N := 31) rfl ?_); (try (refine gate_guard (by rfl) ?_; dsimp only)); refine Kd.R_lit (Kd.int .u8) _ 5 ?hg (N := 31) ?hd (xs := ([63] : List Int)) (inner := [.int .u8 63]) (ok := fun _ => True) (okp := fun _ => True) ?hr ?hp (fun _ hk => hk) trivial (Below.refl _ _) (Nat.le_refl _) (by simp) ?_; (case hd => rfl); (case hg => rfl); (case hr => first | (go_simp; done) | (go_simp; rfl)); (case hp => exact (Reps.one (show Kd.M (Kd.int .u8) _ _ _ 63 [.int .u8 63] from rfl) (Reps.none _ _))); intro v760 w64 ho65 hb hg_ hnew_; clear hg_ hnew_; (first | rw [← Ny759.out] at ho65 | (simp only [Int.reduceToNat] at ho65; rw [← Ny759.out] at ho65)); have HO761 := Aside0.mk (Kd.R_lower ho65 (below_size (bh_ HB))); replace BK749 := Aside0.mk (blk_below (g := gb749) (o := .cells #[.int .i64 a0_0, .int .i64 a0_1, .bool a0_2] 23 (0, 0)) (bp_ BK749) hb); replace BK750 := Aside0.mk (blk_below (g := gb750) (o := .cells #[.int .i64 a1_0, .int .i64 a1_1, .int .u8 a1_2, .slice A1_3 l1_3.length c1_3] 26 (0, 0)) (bp_ BK750) hb); replace BK758 := Aside0.mk (blk_below (g := gb758) (o := .cells #[.int .i64 t755, .int .i64 t756, .int .i64 t757] 29 (0, 0)) (bp_ BK758) hb); replace HB := bs_ HB hb; clear hb ho65; obtain ⟨Ao66, co66, eo66⟩ := Kd.R_slice HO761.out; subst eo66) | ((with_reducible refine gate_callee (f := 31) rfl ?_); refine gl_ (some 32) rfl rfl Try.func31 (by kernel_rfl) rfl #[.slice A1_3 l1_3.length c1_3, .slice Ao66 y759.length co66] rfl ?_; (with_reducible refine (region_Count.calls kj2 _ _ l1_3 _ _ y759 t762 _ ?side1 ?side2 ?side3 ?side4 A36.out).mono ?_); (case side1 => exact cb_ HR1_3 HB); (case side2 => exact HC1_3.out); (case side3 => repeat (first | exact (Kd.R_reads' HO761.out).2.2 | (with_reducible refine Kd.C_alloc ?_ _) | (with_reducible refine Kd.C_drewN ?_ _) | (with_reducible refine Kd.C_drew ?_))); (case side4 => exact (Kd.R_reads' HO761.out).2.1); rintro e w67 ⟨rfl, hb⟩; refine ⟨_, rfl, ?_⟩; have n0_ := Aside0.mk (Kd.R_below (by (with_reducible repeat (first | apply Kd.R_alloc | apply Kd.R_drewN | apply Kd.R_drew)); exact HO761.out) hb); have n1_ := bb_ BK749 hb; have n2_ := bb_ BK750 hb; have n3_ := bb_ BK758 hb; have n4_ := bs_ HB hb; clear HO761; clear BK749; clear BK750; clear BK758; clear HB; have HO761 := n0_; have BK749 := n1_; have BK750 := n2_; have BK758 := n3_; have HB := n4_; clear n0_ n1_ n2_ n3_ n4_; (try clear hb); (try clear hb2); (try clear hk); (try clear hi); have hcz68_0 : w67.cell? ⟨gb750, 0, none⟩ = some (.int .i64 a1_0) := (blk_cell BK750.out 0).trans rfl; have hcz68_1 : w67.cell? ⟨gb750, 1, none⟩ = some (.int .i64 a1_1) := (blk_cell BK750.out 1).trans rfl; have hcz68_2 : w67.cell? ⟨gb750, 2, none⟩ = some (.int .u8 a1_2) := (blk_cell BK750.out 2).trans rfl; have hcz68_3 : w67.cell? ⟨gb750, 3, none⟩ = some (.slice A1_3 l1_3.length c1_3) := (blk_cell BK750.out 3).trans rfl; have hfz68_0 := blk_frozen BK750.out 0; have hfz68_1 := blk_frozen BK750.out 1; have hfz68_2 := blk_frozen BK750.out 2; have hfz68_3 := blk_frozen BK750.out 3) | ((with_reducible refine gate_dst (N := 37) rfl ?_); (try (refine gate_guard (by rfl) ?_; dsimp only)); refine Kd.R_lit (Kd.int .u8) _ 5 ?hg (N := 37) ?hd (xs := ([42] : List Int)) (inner := [.int .u8 42]) (ok := fun _ => True) (okp := fun _ => True) ?hr ?hp (fun _ hk => hk) trivial (Below.refl _ _) (Nat.le_refl _) (by simp) ?_; (case hd => rfl); (case hg => rfl); (case hr => first | (go_simp; done) | (go_simp; rfl)); (case hp => exact (Reps.one (show Kd.M (Kd.int .u8) _ _ _ 42 [.int .u8 42] from rfl) (Reps.none _ _))); intro v764 w69 ho70 hb hg_ hnew_; clear hg_ hnew_; (first | rw [← Ny763.out] at ho70 | (simp only [Int.reduceToNat] at ho70; rw [← Ny763.out] at ho70)); have n0_ := Aside0.mk (Kd.R_elder' (by (with_reducible repeat (first | apply Kd.R_alloc | apply Kd.R_drewN | apply Kd.R_drew)); exact HO761.out) (Kd.R_base ho70) hb); have n1_ := Aside0.mk (Kd.R_lower (Kd.R_new' ho70 (Kd.R_lt (by (with_reducible repeat (first | apply Kd.R_alloc | apply Kd.R_drewN | apply Kd.R_drew)); exact HO761.out))) (below_size (bh_ HB))); have n2_ := bb_ BK749 hb; have n3_ := bb_ BK750 hb; have n4_ := bb_ BK758 hb; have n5_ := bs_ HB hb; clear HO761; clear BK749; clear BK750; clear BK758; clear HB; have HO761 := n0_; have HO765 := n1_; have BK749 := n2_; have BK750 := n3_; have BK758 := n4_; have HB := n5_; clear n0_ n1_ n2_ n3_ n4_ n5_; clear hb ho70; obtain ⟨Ao71, co71, eo71⟩ := Kd.R_slice HO765.out; subst eo71) | ((with_reducible refine gate_callee (f := 31) rfl ?_); refine gl_ (some 38) rfl rfl Try.func31 (by kernel_rfl) rfl #[.slice A1_3 l1_3.length c1_3, .slice Ao71 y763.length co71] rfl ?_; (with_reducible refine (region_Count.calls kj2 _ _ l1_3 _ _ y763 t766 _ ?side1 ?side2 ?side3 ?side4 A45.out).mono ?_); (case side1 => exact cb_ HR1_3 HB); (case side2 => exact HC1_3.out); (case side3 => repeat (first | exact (Kd.R_reads' HO765.out).2.2 | (with_reducible refine Kd.C_alloc ?_ _) | (with_reducible refine Kd.C_drewN ?_ _) | (with_reducible refine Kd.C_drew ?_))); (case side4 => exact (Kd.R_reads' HO765.out).2.1); rintro e w72 ⟨rfl, hb⟩; refine ⟨_, rfl, ?_⟩; have n0_ := Aside0.mk (Kd.R_below (by (with_reducible repeat (first | apply Kd.R_alloc | apply Kd.R_drewN | apply Kd.R_drew)); exact HO761.out) hb); have n1_ := Aside0.mk (Kd.R_below (by (with_reducible repeat (first | apply Kd.R_alloc | apply Kd.R_drewN | apply Kd.R_drew)); exact HO765.out) hb); have n2_ := bb_ BK749 hb; have n3_ := bb_ BK750 hb; have n4_ := bb_ BK758 hb; have n5_ := bs_ HB hb; clear HO761; clear HO765; clear BK749; clear BK750; clear BK758; clear HB; have HO761 := n0_; have HO765 := n1_; have BK749 := n2_; have BK750 := n3_; have BK758 := n4_; have HB := n5_; clear n0_ n1_ n2_ n3_ n4_ n5_; (try clear hb); (try clear hb2); (try clear hk); (try clear hi); have hcz73_0 : w72.cell? ⟨gb750, 0, none⟩ = some (.int .i64 a1_0) := (blk_cell BK750.out 0).trans rfl; have hcz73_1 : w72.cell? ⟨gb750, 1, none⟩ = some (.int .i64 a1_1) := (blk_cell BK750.out 1).trans rfl; have hcz73_2 : w72.cell? ⟨gb750, 2, none⟩ = some (.int .u8 a1_2) := (blk_cell BK750.out 2).trans rfl; have hcz73_3 : w72.cell? ⟨gb750, 3, none⟩ = some (.slice A1_3 l1_3.length c1_3) := (blk_cell BK750.out 3).trans rfl; have hfz73_0 := blk_frozen BK750.out 0; have hfz73_1 := blk_frozen BK750.out 1; have hfz73_2 := blk_frozen BK750.out 2; have hfz73_3 := blk_frozen BK750.out 3) | ((with_reducible refine gate_dst (N := 43) rfl ?_); (try (refine gate_guard (by rfl) ?_; dsimp only)); refine Kd.R_lit (Kd.int .u8) _ 5 ?hg (N := 43) ?hd (xs := ([47] : List Int)) (inner := [.int .u8 47]) (ok := fun _ => True) (okp := fun _ => True) ?hr ?hp (fun _ hk => hk) trivial (Below.refl _ _) (Nat.le_refl _) (by simp) ?_; (case hd => rfl); (case hg => rfl); (case hr => first | (go_simp; done) | (go_simp; rfl)); (case hp => exact (Reps.one (show Kd.M (Kd.int .u8) _ _ _ 47 [.int .u8 47] from rfl) (Reps.none _ _))); intro v768 w74 ho75 hb hg_ hnew_; clear hg_ hnew_; (first | rw [← Ny767.out] at ho75 | (simp only [Int.reduceToNat] at ho75; rw [← Ny767.out] at ho75)); have n0_ := Aside0.mk (Kd.R_elder' (by (with_reducible repeat (first | apply Kd.R_alloc | apply Kd.R_drewN | apply Kd.R_drew)); exact HO761.out) (Kd.R_base ho75) hb); have n1_ := Aside0.mk (Kd.R_elder' (by (with_reducible repeat (first | apply Kd.R_alloc | apply Kd.R_drewN | apply Kd.R_drew)); exact HO765.out) (Kd.R_base ho75) hb); have n2_ := Aside0.mk (Kd.R_lower (Kd.R_new' (Kd.R_new' ho75 (Kd.R_lt (by (with_reducible repeat (first | apply Kd.R_alloc | apply Kd.R_drewN | apply Kd.R_drew)); exact HO761.out))) (Kd.R_lt (by (with_reducible repeat (first | apply Kd.R_alloc | apply Kd.R_drewN | apply Kd.R_drew)); exact HO765.out))) (below_size (bh_ HB))); have n3_ := bb_ BK749 hb; have n4_ := bb_ BK750 hb; have n5_ := bb_ BK758 hb; have n6_ := bs_ HB hb; clear HO761; clear HO765; clear BK749; clear BK750; clear BK758; clear HB; have HO761 := n0_; have HO765 := n1_; have HO769 := n2_; have BK749 := n3_; have BK750 := n4_; have BK758 := n5_; have HB := n6_; clear n0_ n1_ n2_ n3_ n4_ n5_ n6_; clear hb ho75; obtain ⟨Ao76, co76, eo76⟩ := Kd.R_slice HO769.out; subst eo76) | ((with_reducible refine gate_callee (f := 31) rfl ?_); refine gl_ (some 44) rfl rfl Try.func31 (by kernel_rfl) rfl #[.slice A1_3 l1_3.length c1_3, .slice Ao76 y767.length co76] rfl ?_; (with_reducible refine (region_Count.calls kj2 _ _ l1_3 _ _ y767 t770 _ ?side1 ?side2 ?side3 ?side4 A59.out).mono ?_); (case side1 => exact cb_ HR1_3 HB); (case side2 => exact HC1_3.out); (case side3 => repeat (first | exact (Kd.R_reads' HO769.out).2.2 | (with_reducible refine Kd.C_alloc ?_ _) | (with_reducible refine Kd.C_drewN ?_ _) | (with_reducible refine Kd.C_drew ?_))); (case side4 => exact (Kd.R_reads' HO769.out).2.1); rintro e w77 ⟨rfl, hb⟩; refine ⟨_, rfl, ?_⟩; have n0_ := Aside0.mk (Kd.R_below (by (with_reducible repeat (first | apply Kd.R_alloc | apply Kd.R_drewN | apply Kd.R_drew)); exact HO761.out) hb); have n1_ := Aside0.mk (Kd.R_below (by (with_reducible repeat (first | apply Kd.R_alloc | apply Kd.R_drewN | apply Kd.R_drew)); exact HO765.out) hb); have n2_ := Aside0.mk (Kd.R_below (by (with_reducible repeat (first | apply Kd.R_alloc | apply Kd.R_drewN | apply Kd.R_drew)); exact HO769.out) hb); have n3_ := bb_ BK749 hb; have n4_ := bb_ BK750 hb; have n5_ := bb_ BK758 hb; have n6_ := bs_ HB hb; clear HO761; clear HO765; clear HO769; clear BK749; clear BK750; clear BK758; clear HB; have HO761 := n0_; have HO765 := n1_; have HO769 := n2_; have BK749 := n3_; have BK750 := n4_; have BK758 := n5_; have HB := n6_; clear n0_ n1_ n2_ n3_ n4_ n5_ n6_; (try clear hb); (try clear hb2); (try clear hk); (try clear hi)))
        go_meet
        case rel => exact ⟨_, (3), (by first | rfl | (simp; done) | (simp [*]; done)), H', ⟨by have := HJ2.out; first | omega | exact Nat.le_refl _⟩, ⟨by (with_reducible repeat (first | refine blk_drewN ?_ _ | refine blk_drew ?_ | refine blk_alloc ?_ _)); exact BK749.out⟩, ⟨by (with_reducible repeat (first | refine blk_drewN ?_ _ | refine blk_drew ?_ | refine blk_alloc ?_ _)); exact BK750.out⟩, ⟨by (with_reducible repeat (first | refine blk_drewN ?_ _ | refine blk_drew ?_ | refine blk_alloc ?_ _)); exact BK758.out⟩, ⟨by repeat (first | (with_reducible first | exact HB.out | apply below_alloc | apply pw_below_drewN | apply below_drew1 | refine below_set ?_ GE749.out | refine below_set ?_ GE750.out | refine below_set ?_ GE758.out) | exact HB.out)⟩⟩
       ·rw [if_neg c60] at H
        have c60b0 : decide (0 < t770) = false := decide_eq_false c60
        clear c60
        have HC78 := Aside0.mk H
        clear H
        have hnb79 := NB750_749.out
        have hnc79 := NB749_750.out
        have hnb80 := NB750_758.out
        have hnc80 := NB758_750.out
        have hcz81_0 : w32.cell? ⟨gb750, 0, none⟩ = some (.int .i64 a1_0) := (blk_cell BK750.out 0).trans rfl
        have hcz81_1 : w32.cell? ⟨gb750, 1, none⟩ = some (.int .i64 a1_1) := (blk_cell BK750.out 1).trans rfl
        have hcz81_2 : w32.cell? ⟨gb750, 2, none⟩ = some (.int .u8 a1_2) := (blk_cell BK750.out 2).trans rfl
        have hcz81_3 : w32.cell? ⟨gb750, 3, none⟩ = some (.slice A1_3 l1_3.length c1_3) := (blk_cell BK750.out 3).trans rfl
        have hfz81_0 := blk_frozen BK750.out 0
        have hfz81_1 := blk_frozen BK750.out 1
        have hfz81_2 := blk_frozen BK750.out 2
        have hfz81_3 := blk_frozen BK750.out 3
        go_upto_region 11 with (first | ((with_reducible refine gate_dst (N := 31) rfl ?_); (try (refine gate_guard (by rfl) ?_; dsimp only)); refine Kd.R_lit (Kd.int .u8) _ 5 ?hg (N := 31) ?hd (xs := ([63] : List Int)) (inner := [.int .u8 63]) (ok := fun _ => True) (okp := fun _ => True) ?hr ?hp (fun _ hk => hk) trivial (Below.refl _ _) (Nat.le_refl _) (by simp) ?_; (case hd => rfl); (case hg => rfl); (case hr => first | (go_simp; done) | (go_simp; rfl)); (case hp => exact (Reps.one (show Kd.M (Kd.int .u8) _ _ _ 63 [.int .u8 63] from rfl) (Reps.none _ _))); intro v760 w82 ho83 hb hg_ hnew_; clear hg_ hnew_; (first | rw [← Ny759.out] at ho83 | (simp only [Int.reduceToNat] at ho83; rw [← Ny759.out] at ho83)); have HO761 := Aside0.mk (Kd.R_lower ho83 (below_size (bh_ HB))); replace BK749 := Aside0.mk (blk_below (g := gb749) (o := .cells #[.int .i64 a0_0, .int .i64 a0_1, .bool a0_2] 23 (0, 0)) (bp_ BK749) hb); replace BK750 := Aside0.mk (blk_below (g := gb750) (o := .cells #[.int .i64 a1_0, .int .i64 a1_1, .int .u8 a1_2, .slice A1_3 l1_3.length c1_3] 26 (0, 0)) (bp_ BK750) hb); replace BK758 := Aside0.mk (blk_below (g := gb758) (o := .cells #[.int .i64 t755, .int .i64 t756, .int .i64 t757] 29 (0, 0)) (bp_ BK758) hb); replace HB := bs_ HB hb; clear hb ho83; obtain ⟨Ao84, co84, eo84⟩ := Kd.R_slice HO761.out; subst eo84) | ((with_reducible refine gate_callee (f := 31) rfl ?_); refine gl_ (some 32) rfl rfl Try.func31 (by kernel_rfl) rfl #[.slice A1_3 l1_3.length c1_3, .slice Ao84 y759.length co84] rfl ?_; (with_reducible refine (region_Count.calls kj2 _ _ l1_3 _ _ y759 t762 _ ?side1 ?side2 ?side3 ?side4 A36.out).mono ?_); (case side1 => exact cb_ HR1_3 HB); (case side2 => exact HC1_3.out); (case side3 => repeat (first | exact (Kd.R_reads' HO761.out).2.2 | (with_reducible refine Kd.C_alloc ?_ _) | (with_reducible refine Kd.C_drewN ?_ _) | (with_reducible refine Kd.C_drew ?_))); (case side4 => exact (Kd.R_reads' HO761.out).2.1); rintro e w85 ⟨rfl, hb⟩; refine ⟨_, rfl, ?_⟩; have n0_ := Aside0.mk (Kd.R_below (by (with_reducible repeat (first | apply Kd.R_alloc | apply Kd.R_drewN | apply Kd.R_drew)); exact HO761.out) hb); have n1_ := bb_ BK749 hb; have n2_ := bb_ BK750 hb; have n3_ := bb_ BK758 hb; have n4_ := bs_ HB hb; clear HO761; clear BK749; clear BK750; clear BK758; clear HB; have HO761 := n0_; have BK749 := n1_; have BK750 := n2_; have BK758 := n3_; have HB := n4_; clear n0_ n1_ n2_ n3_ n4_; (try clear hb); (try clear hb2); (try clear hk); (try clear hi); have hcz86_0 : w85.cell? ⟨gb750, 0, none⟩ = some (.int .i64 a1_0) := (blk_cell BK750.out 0).trans rfl; have hcz86_1 : w85.cell? ⟨gb750, 1, none⟩ = some (.int .i64 a1_1) := (blk_cell BK750.out 1).trans rfl; have hcz86_2 : w85.cell? ⟨gb750, 2, none⟩ = some (.int .u8 a1_2) := (blk_cell BK750.out 2).trans rfl; have hcz86_3 : w85.cell? ⟨gb750, 3, none⟩ = some (.slice A1_3 l1_3.length c1_3) := (blk_cell BK750.out 3).trans rfl; have hfz86_0 := blk_frozen BK750.out 0; have hfz86_1 := blk_frozen BK750.out 1; have hfz86_2 := blk_frozen BK750.out 2; have hfz86_3 := blk_frozen BK750.out 3) | ((with_reducible refine gate_dst (N := 37) rfl ?_); (try (refine gate_guard (by rfl) ?_; dsimp only)); refine Kd.R_lit (Kd.int .u8) _ 5 ?hg (N := 37) ?hd (xs := ([42] : List Int)) (inner := [.int .u8 42]) (ok := fun _ => True) (okp := fun _ => True) ?hr ?hp (fun _ hk => hk) trivial (Below.refl _ _) (Nat.le_refl _) (by simp) ?_; (case hd => rfl); (case hg => rfl); (case hr => first | (go_simp; done) | (go_simp; rfl)); (case hp => exact (Reps.one (show Kd.M (Kd.int .u8) _ _ _ 42 [.int .u8 42] from rfl) (Reps.none _ _))); intro v764 w87 ho88 hb hg_ hnew_; clear hg_ hnew_; (first | rw [← Ny763.out] at ho88 | (simp only [Int.reduceToNat] at ho88; rw [← Ny763.out] at ho88)); have n0_ := Aside0.mk (Kd.R_elder' (by (with_reducible repeat (first | apply Kd.R_alloc | apply Kd.R_drewN | apply Kd.R_drew)); exact HO761.out) (Kd.R_base ho88) hb); have n1_ := Aside0.mk (Kd.R_lower (Kd.R_new' ho88 (Kd.R_lt (by (with_reducible repeat (first | apply Kd.R_alloc | apply Kd.R_drewN | apply Kd.R_drew)); exact HO761.out))) (below_size (bh_ HB))); have n2_ := bb_ BK749 hb; have n3_ := bb_ BK750 hb; have n4_ := bb_ BK758 hb; have n5_ := bs_ HB hb; clear HO761; clear BK749; clear BK750; clear BK758; clear HB; have HO761 := n0_; have HO765 := n1_; have BK749 := n2_; have BK750 := n3_; have BK758 := n4_; have HB := n5_; clear n0_ n1_ n2_ n3_ n4_ n5_; clear hb ho88; obtain ⟨Ao89, co89, eo89⟩ := Kd.R_slice HO765.out; subst eo89) | ((with_reducible refine gate_callee (f := 31) rfl ?_); refine gl_ (some 38) rfl rfl Try.func31 (by kernel_rfl) rfl #[.slice A1_3 l1_3.length c1_3, .slice Ao89 y763.length co89] rfl ?_; (with_reducible refine (region_Count.calls kj2 _ _ l1_3 _ _ y763 t766 _ ?side1 ?side2 ?side3 ?side4 A45.out).mono ?_); (case side1 => exact cb_ HR1_3 HB); (case side2 => exact HC1_3.out); (case side3 => repeat (first | exact (Kd.R_reads' HO765.out).2.2 | (with_reducible refine Kd.C_alloc ?_ _) | (with_reducible refine Kd.C_drewN ?_ _) | (with_reducible refine Kd.C_drew ?_))); (case side4 => exact (Kd.R_reads' HO765.out).2.1); rintro e w90 ⟨rfl, hb⟩; refine ⟨_, rfl, ?_⟩; have n0_ := Aside0.mk (Kd.R_below (by (with_reducible repeat (first | apply Kd.R_alloc | apply Kd.R_drewN | apply Kd.R_drew)); exact HO761.out) hb); have n1_ := Aside0.mk (Kd.R_below (by (with_reducible repeat (first | apply Kd.R_alloc | apply Kd.R_drewN | apply Kd.R_drew)); exact HO765.out) hb); have n2_ := bb_ BK749 hb; have n3_ := bb_ BK750 hb; have n4_ := bb_ BK758 hb; have n5_ := bs_ HB hb; clear HO761; clear HO765; clear BK749; clear BK750; clear BK758; clear HB; have HO761 := n0_; have HO765 := n1_; have BK749 := n2_; have BK750 := n3_; have BK758 := n4_; have HB := n5_; clear n0_ n1_ n2_ n3_ n4_ n5_; (try clear hb); (try clear hb2); (try clear hk); (try clear hi); have hcz91_0 : w90.cell? ⟨gb750, 0, none⟩ = some (.int .i64 a1_0) := (blk_cell BK750.out 0).trans rfl; have hcz91_1 : w90.cell? ⟨gb750, 1, none⟩ = some (.int .i64 a1_1) := (blk_cell BK750.out 1).trans rfl; have hcz91_2 : w90.cell? ⟨gb750, 2, none⟩ = some (.int .u8 a1_2) := (blk_cell BK750.out 2).trans rfl; have hcz91_3 : w90.cell? ⟨gb750, 3, none⟩ = some (.slice A1_3 l1_3.length c1_3) := (blk_cell BK750.out 3).trans rfl; have hfz91_0 := blk_frozen BK750.out 0; have hfz91_1 := blk_frozen BK750.out 1; have hfz91_2 := blk_frozen BK750.out 2; have hfz91_3 := blk_frozen BK750.out 3) | ((with_reducible refine gate_dst (N := 43) rfl ?_); (try (refine gate_guard (by rfl) ?_; dsimp only)); refine Kd.R_lit (Kd.int .u8) _ 5 ?hg (N := 43) ?hd (xs := ([47] : List Int)) (inner := [.int .u8 47]) (ok := fun _ => True) (okp := fun _ => True) ?hr ?hp (fun _ hk => hk) trivial (Below.refl _ _) (Nat.le_refl _) (by simp) ?_; (case hd => rfl); (case hg => rfl); (case hr => first | (go_simp; done) | (go_simp; rfl)); (case hp => exact (Reps.one (show Kd.M (Kd.int .u8) _ _ _ 47 [.int .u8 47] from rfl) (Reps.none _ _))); intro v768 w92 ho93 hb hg_ hnew_; clear hg_ hnew_; (first | rw [← Ny767.out] at ho93 | (simp only [Int.reduceToNat] at ho93; rw [← Ny767.out] at ho93)); have n0_ := Aside0.mk (Kd.R_elder' (by (with_reducible repeat (first | apply Kd.R_alloc | apply Kd.R_drewN | apply Kd.R_drew)); exact HO761.out) (Kd.R_base ho93) hb); have n1_ := Aside0.mk (Kd.R_elder' (by (with_reducible repeat (first | apply Kd.R_alloc | apply Kd.R_drewN | apply Kd.R_drew)); exact HO765.out) (Kd.R_base ho93) hb); have n2_ := Aside0.mk (Kd.R_lower (Kd.R_new' (Kd.R_new' ho93 (Kd.R_lt (by (with_reducible repeat (first | apply Kd.R_alloc | apply Kd.R_drewN | apply Kd.R_drew)); exact HO761.out))) (Kd.R_lt (by (with_reducible repeat (first | apply Kd.R_alloc | apply Kd.R_drewN | apply Kd.R_drew)); exact HO765.out))) (below_size (bh_ HB))); have n3_ := bb_ BK749 hb; have n4_ := bb_ BK750 hb; have n5_ := bb_ BK758 hb; have n6_ := bs_ HB hb; clear HO761; clear HO765; clear BK749; clear BK750; clear BK758; clear HB; have HO761 := n0_; have HO765 := n1_; have HO769 := n2_; have BK749 := n3_; have BK750 := n4_; have BK758 := n5_; have HB := n6_; clear n0_ n1_ n2_ n3_ n4_ n5_ n6_; clear hb ho93; obtain ⟨Ao94, co94, eo94⟩ := Kd.R_slice HO769.out; subst eo94) | ((with_reducible refine gate_callee (f := 31) rfl ?_); refine gl_ (some 44) rfl rfl Try.func31 (by kernel_rfl) rfl #[.slice A1_3 l1_3.length c1_3, .slice Ao94 y767.length co94] rfl ?_; (with_reducible refine (region_Count.calls kj2 _ _ l1_3 _ _ y767 t770 _ ?side1 ?side2 ?side3 ?side4 A59.out).mono ?_); (case side1 => exact cb_ HR1_3 HB); (case side2 => exact HC1_3.out); (case side3 => repeat (first | exact (Kd.R_reads' HO769.out).2.2 | (with_reducible refine Kd.C_alloc ?_ _) | (with_reducible refine Kd.C_drewN ?_ _) | (with_reducible refine Kd.C_drew ?_))); (case side4 => exact (Kd.R_reads' HO769.out).2.1); rintro e w95 ⟨rfl, hb⟩; refine ⟨_, rfl, ?_⟩; have n0_ := Aside0.mk (Kd.R_below (by (with_reducible repeat (first | apply Kd.R_alloc | apply Kd.R_drewN | apply Kd.R_drew)); exact HO761.out) hb); have n1_ := Aside0.mk (Kd.R_below (by (with_reducible repeat (first | apply Kd.R_alloc | apply Kd.R_drewN | apply Kd.R_drew)); exact HO765.out) hb); have n2_ := Aside0.mk (Kd.R_below (by (with_reducible repeat (first | apply Kd.R_alloc | apply Kd.R_drewN | apply Kd.R_drew)); exact HO769.out) hb); have n3_ := bb_ BK749 hb; have n4_ := bb_ BK750 hb; have n5_ := bb_ BK758 hb; have n6_ := bs_ HB hb; clear HO761; clear HO765; clear HO769; clear BK749; clear BK750; clear BK758; clear HB; have HO761 := n0_; have HO765 := n1_; have HO769 := n2_; have BK749 := n3_; have BK750 := n4_; have BK758 := n5_; have HB := n6_; clear n0_ n1_ n2_ n3_ n4_ n5_ n6_; (try clear hb); (try clear hb2); (try clear hk); (try clear hi)))
        (try simp only [Act.put, List.setIfInBounds_toArray, List.set_cons_zero, List.set_cons_succ])
        go_cut [46] (fun v46 wc => ∃ (kq : Nat) (x46_77 : Bool), v46 = .bool x46_77 ∧ Aside0 (salvorlaw18_PlanOrder.j1 kq 0 x46_77 a0_0 a0_1 a0_2 a1_0 a1_1 a1_2 l1_3 t755 t756 t757 = some r) ∧ Aside0 (kq ≤ kj2) ∧ Aside0 (wc.heap[gb749]? = some (.cells #[.int .i64 a0_0, .int .i64 a0_1, .bool a0_2] 23 (0, 0))) ∧ Aside0 (wc.heap[gb750]? = some (.cells #[.int .i64 a1_0, .int .i64 a1_1, .int .u8 a1_2, (.slice A1_3 l1_3.length c1_3)] 26 (0, 0))) ∧ Aside0 (wc.heap[gb758]? = some (.cells #[.int .i64 t755, .int .i64 t756, .int .i64 t757] 29 (0, 0))) ∧ Aside0 (Below w.heap.size w wc))
        case first =>
         have H := HC78.out
         clear HC78
         obtain ⟨y771, hy771⟩ : ∃ y_ : List Int, y_ = (([45] : List Int)) := ⟨_, rfl⟩
         replace H : ((region_Count.f kj2 l1_3 y771).bind fun t774 => (if t774 > 0 then (salvorlaw18_PlanOrder.j1 kj2 0 (decide (a1_1 < a0_1)) a0_0 a0_1 a0_2 a1_0 a1_1 a1_2 l1_3 t755 t756 t757) else (salvorlaw18_PlanOrder.j1 kj2 0 false a0_0 a0_1 a0_2 a1_0 a1_1 a1_2 l1_3 t755 t756 t757))) = some r := by first | (rw [hy771]; with_reducible exact H) | (have H2_ := (Option.bind_some _ _).symm.trans H; rw [hy771]; with_reducible exact H2_) | (have H2_ := (Option.bind_some _ _).symm.trans H; with_reducible exact H2_) | with_reducible exact H | (rw [hy771]; exact H) | exact H
         have Ny771 := Aside0.mk hy771
         clear hy771
         replace H := Option.bind_eq_some_iff.mp H
         obtain ⟨t774, A960, H⟩ := H
         replace H : (if t774 > 0 then (salvorlaw18_PlanOrder.j1 kj2 0 (decide (a1_1 < a0_1)) a0_0 a0_1 a0_2 a1_0 a1_1 a1_2 l1_3 t755 t756 t757) else (salvorlaw18_PlanOrder.j1 kj2 0 false a0_0 a0_1 a0_2 a1_0 a1_1 a1_2 l1_3 t755 t756 t757)) = some r := H
         have A96 := Aside0.mk A960
         clear A960
         by_cases c97 : t774 > 0
         ·rw [if_pos c97] at H
          have c97b0 : decide (0 < t774) = true := decide_eq_true c97
          clear c97
          (first | rw [c97b0] | (simp only [i64_w, i32_w]; rw [c97b0]) | skip)
          have H' := Aside0.mk H
          clear H
          have hnb98 := NB750_749.out
          have hnc98 := NB749_750.out
          have hnb99 := NB750_758.out
          have hnc99 := NB758_750.out
          have hcz100_0 : w95.cell? ⟨gb750, 0, none⟩ = some (.int .i64 a1_0) := (blk_cell BK750.out 0).trans rfl
          have hcz100_1 : w95.cell? ⟨gb750, 1, none⟩ = some (.int .i64 a1_1) := (blk_cell BK750.out 1).trans rfl
          have hcz100_2 : w95.cell? ⟨gb750, 2, none⟩ = some (.int .u8 a1_2) := (blk_cell BK750.out 2).trans rfl
          have hcz100_3 : w95.cell? ⟨gb750, 3, none⟩ = some (.slice A1_3 l1_3.length c1_3) := (blk_cell BK750.out 3).trans rfl
          have hfz100_0 := blk_frozen BK750.out 0
          have hfz100_1 := blk_frozen BK750.out 1
          have hfz100_2 := blk_frozen BK750.out 2
          have hfz100_3 := blk_frozen BK750.out 3
          go_wp2_with (first | ((with_reducible refine gate_dst (N := 49) rfl ?_); (try (refine gate_guard (by rfl) ?_; dsimp only)); refine Kd.R_lit (Kd.int .u8) _ 5 ?hg (N := 49) ?hd (xs := ([45] : List Int)) (inner := [.int .u8 45]) (ok := fun _ => True) (okp := fun _ => True) ?hr ?hp (fun _ hk => hk) trivial (Below.refl _ _) (Nat.le_refl _) (by simp) ?_; (case hd => rfl); (case hg => rfl); (case hr => first | (go_simp; done) | (go_simp; rfl)); (case hp => exact (Reps.one (show Kd.M (Kd.int .u8) _ _ _ 45 [.int .u8 45] from rfl) (Reps.none _ _))); intro v772 w101 ho102 hb hg_ hnew_; clear hg_ hnew_; (first | rw [← Ny771.out] at ho102 | (simp only [Int.reduceToNat] at ho102; rw [← Ny771.out] at ho102)); have n0_ := Aside0.mk (Kd.R_elder' (by (with_reducible repeat (first | apply Kd.R_alloc | apply Kd.R_drewN | apply Kd.R_drew)); exact HO761.out) (Kd.R_base ho102) hb); have n1_ := Aside0.mk (Kd.R_elder' (by (with_reducible repeat (first | apply Kd.R_alloc | apply Kd.R_drewN | apply Kd.R_drew)); exact HO765.out) (Kd.R_base ho102) hb); have n2_ := Aside0.mk (Kd.R_elder' (by (with_reducible repeat (first | apply Kd.R_alloc | apply Kd.R_drewN | apply Kd.R_drew)); exact HO769.out) (Kd.R_base ho102) hb); have n3_ := Aside0.mk (Kd.R_lower (Kd.R_new' (Kd.R_new' (Kd.R_new' ho102 (Kd.R_lt (by (with_reducible repeat (first | apply Kd.R_alloc | apply Kd.R_drewN | apply Kd.R_drew)); exact HO761.out))) (Kd.R_lt (by (with_reducible repeat (first | apply Kd.R_alloc | apply Kd.R_drewN | apply Kd.R_drew)); exact HO765.out))) (Kd.R_lt (by (with_reducible repeat (first | apply Kd.R_alloc | apply Kd.R_drewN | apply Kd.R_drew)); exact HO769.out))) (below_size (bh_ HB))); have n4_ := bb_ BK749 hb; have n5_ := bb_ BK750 hb; have n6_ := bb_ BK758 hb; have n7_ := bs_ HB hb; clear HO761; clear HO765; clear HO769; clear BK749; clear BK750; clear BK758; clear HB; have HO761 := n0_; have HO765 := n1_; have HO769 := n2_; have HO773 := n3_; have BK749 := n4_; have BK750 := n5_; have BK758 := n6_; have HB := n7_; clear n0_ n1_ n2_ n3_ n4_ n5_ n6_ n7_; clear hb ho102; obtain ⟨Ao103, co103, eo103⟩ := Kd.R_slice HO773.out; subst eo103) | ((with_reducible refine gate_callee (f := 31) rfl ?_); refine gl_ (some 50) rfl rfl Try.func31 (by kernel_rfl) rfl #[.slice A1_3 l1_3.length c1_3, .slice Ao103 y771.length co103] rfl ?_; (with_reducible refine (region_Count.calls kj2 _ _ l1_3 _ _ y771 t774 _ ?side1 ?side2 ?side3 ?side4 A96.out).mono ?_); (case side1 => exact cb_ HR1_3 HB); (case side2 => exact HC1_3.out); (case side3 => repeat (first | exact (Kd.R_reads' HO773.out).2.2 | (with_reducible refine Kd.C_alloc ?_ _) | (with_reducible refine Kd.C_drewN ?_ _) | (with_reducible refine Kd.C_drew ?_))); (case side4 => exact (Kd.R_reads' HO773.out).2.1); rintro e w104 ⟨rfl, hb⟩; refine ⟨_, rfl, ?_⟩; have n0_ := Aside0.mk (Kd.R_below (by (with_reducible repeat (first | apply Kd.R_alloc | apply Kd.R_drewN | apply Kd.R_drew)); exact HO761.out) hb); have n1_ := Aside0.mk (Kd.R_below (by (with_reducible repeat (first | apply Kd.R_alloc | apply Kd.R_drewN | apply Kd.R_drew)); exact HO765.out) hb); have n2_ := Aside0.mk (Kd.R_below (by (with_reducible repeat (first | apply Kd.R_alloc | apply Kd.R_drewN | apply Kd.R_drew)); exact HO769.out) hb); have n3_ := Aside0.mk (Kd.R_below (by (with_reducible repeat (first | apply Kd.R_alloc | apply Kd.R_drewN | apply Kd.R_drew)); exact HO773.out) hb); have n4_ := bb_ BK749 hb; have n5_ := bb_ BK750 hb; have n6_ := bb_ BK758 hb; have n7_ := bs_ HB hb; clear HO761; clear HO765; clear HO769; clear HO773; clear BK749; clear BK750; clear BK758; clear HB; have HO761 := n0_; have HO765 := n1_; have HO769 := n2_; have HO773 := n3_; have BK749 := n4_; have BK750 := n5_; have BK758 := n6_; have HB := n7_; clear n0_ n1_ n2_ n3_ n4_ n5_ n6_ n7_; (try clear hb); (try clear hb2); (try clear hk); (try clear hi); have hcz105_0 : w104.cell? ⟨gb750, 0, none⟩ = some (.int .i64 a1_0) := (blk_cell BK750.out 0).trans rfl; have hcz105_1 : w104.cell? ⟨gb750, 1, none⟩ = some (.int .i64 a1_1) := (blk_cell BK750.out 1).trans rfl; have hcz105_2 : w104.cell? ⟨gb750, 2, none⟩ = some (.int .u8 a1_2) := (blk_cell BK750.out 2).trans rfl; have hcz105_3 : w104.cell? ⟨gb750, 3, none⟩ = some (.slice A1_3 l1_3.length c1_3) := (blk_cell BK750.out 3).trans rfl; have hfz105_0 := blk_frozen BK750.out 0; have hfz105_1 := blk_frozen BK750.out 1; have hfz105_2 := blk_frozen BK750.out 2; have hfz105_3 := blk_frozen BK750.out 3; have hnb106 := NB749_758.out; have hnc106 := NB758_749.out; have hcz107_0 : w104.cell? ⟨gb749, 0, none⟩ = some (.int .i64 a0_0) := (blk_cell BK749.out 0).trans rfl; have hcz107_1 : w104.cell? ⟨gb749, 1, none⟩ = some (.int .i64 a0_1) := (blk_cell BK749.out 1).trans rfl; have hcz107_2 : w104.cell? ⟨gb749, 2, none⟩ = some (.bool a0_2) := (blk_cell BK749.out 2).trans rfl; have hfz107_0 := blk_frozen BK749.out 0; have hfz107_1 := blk_frozen BK749.out 1; have hfz107_2 := blk_frozen BK749.out 2))
          go_meet
          case rel => exact ⟨_, (decide (a1_1 < a0_1)), (by first | rfl | (simp; done) | (simp [*]; done)), H', ⟨by have := HJ2.out; first | omega | exact Nat.le_refl _⟩, ⟨by (with_reducible repeat (first | refine blk_drewN ?_ _ | refine blk_drew ?_ | refine blk_alloc ?_ _)); exact BK749.out⟩, ⟨by (with_reducible repeat (first | refine blk_drewN ?_ _ | refine blk_drew ?_ | refine blk_alloc ?_ _)); exact BK750.out⟩, ⟨by (with_reducible repeat (first | refine blk_drewN ?_ _ | refine blk_drew ?_ | refine blk_alloc ?_ _)); exact BK758.out⟩, ⟨by repeat (first | (with_reducible first | exact HB.out | apply below_alloc | apply pw_below_drewN | apply below_drew1 | refine below_set ?_ GE749.out | refine below_set ?_ GE750.out | refine below_set ?_ GE758.out) | exact HB.out)⟩⟩
         ·rw [if_neg c97] at H
          have c97b0 : decide (0 < t774) = false := decide_eq_false c97
          clear c97
          (first | rw [c97b0] | (simp only [i64_w, i32_w]; rw [c97b0]) | skip)
          have H' := Aside0.mk H
          clear H
          have hnb108 := NB750_749.out
          have hnc108 := NB749_750.out
          have hnb109 := NB750_758.out
          have hnc109 := NB758_750.out
          have hcz110_0 : w95.cell? ⟨gb750, 0, none⟩ = some (.int .i64 a1_0) := (blk_cell BK750.out 0).trans rfl
          have hcz110_1 : w95.cell? ⟨gb750, 1, none⟩ = some (.int .i64 a1_1) := (blk_cell BK750.out 1).trans rfl
          have hcz110_2 : w95.cell? ⟨gb750, 2, none⟩ = some (.int .u8 a1_2) := (blk_cell BK750.out 2).trans rfl
          have hcz110_3 : w95.cell? ⟨gb750, 3, none⟩ = some (.slice A1_3 l1_3.length c1_3) := (blk_cell BK750.out 3).trans rfl
          have hfz110_0 := blk_frozen BK750.out 0
          have hfz110_1 := blk_frozen BK750.out 1
          have hfz110_2 := blk_frozen BK750.out 2
          have hfz110_3 := blk_frozen BK750.out 3
          go_wp2_with (first | ((with_reducible refine gate_dst (N := 49) rfl ?_); (try (refine gate_guard (by rfl) ?_; dsimp only)); refine Kd.R_lit (Kd.int .u8) _ 5 ?hg (N := 49) ?hd (xs := ([45] : List Int)) (inner := [.int .u8 45]) (ok := fun _ => True) (okp := fun _ => True) ?hr ?hp (fun _ hk => hk) trivial (Below.refl _ _) (Nat.le_refl _) (by simp) ?_; (case hd => rfl); (case hg => rfl); (case hr => first | (go_simp; done) | (go_simp; rfl)); (case hp => exact (Reps.one (show Kd.M (Kd.int .u8) _ _ _ 45 [.int .u8 45] from rfl) (Reps.none _ _))); intro v772 w111 ho112 hb hg_ hnew_; clear hg_ hnew_; (first | rw [← Ny771.out] at ho112 | (simp only [Int.reduceToNat] at ho112; rw [← Ny771.out] at ho112)); have n0_ := Aside0.mk (Kd.R_elder' (by (with_reducible repeat (first | apply Kd.R_alloc | apply Kd.R_drewN | apply Kd.R_drew)); exact HO761.out) (Kd.R_base ho112) hb); have n1_ := Aside0.mk (Kd.R_elder' (by (with_reducible repeat (first | apply Kd.R_alloc | apply Kd.R_drewN | apply Kd.R_drew)); exact HO765.out) (Kd.R_base ho112) hb); have n2_ := Aside0.mk (Kd.R_elder' (by (with_reducible repeat (first | apply Kd.R_alloc | apply Kd.R_drewN | apply Kd.R_drew)); exact HO769.out) (Kd.R_base ho112) hb); have n3_ := Aside0.mk (Kd.R_lower (Kd.R_new' (Kd.R_new' (Kd.R_new' ho112 (Kd.R_lt (by (with_reducible repeat (first | apply Kd.R_alloc | apply Kd.R_drewN | apply Kd.R_drew)); exact HO761.out))) (Kd.R_lt (by (with_reducible repeat (first | apply Kd.R_alloc | apply Kd.R_drewN | apply Kd.R_drew)); exact HO765.out))) (Kd.R_lt (by (with_reducible repeat (first | apply Kd.R_alloc | apply Kd.R_drewN | apply Kd.R_drew)); exact HO769.out))) (below_size (bh_ HB))); have n4_ := bb_ BK749 hb; have n5_ := bb_ BK750 hb; have n6_ := bb_ BK758 hb; have n7_ := bs_ HB hb; clear HO761; clear HO765; clear HO769; clear BK749; clear BK750; clear BK758; clear HB; have HO761 := n0_; have HO765 := n1_; have HO769 := n2_; have HO773 := n3_; have BK749 := n4_; have BK750 := n5_; have BK758 := n6_; have HB := n7_; clear n0_ n1_ n2_ n3_ n4_ n5_ n6_ n7_; clear hb ho112; obtain ⟨Ao113, co113, eo113⟩ := Kd.R_slice HO773.out; subst eo113) | ((with_reducible refine gate_callee (f := 31) rfl ?_); refine gl_ (some 50) rfl rfl Try.func31 (by kernel_rfl) rfl #[.slice A1_3 l1_3.length c1_3, .slice Ao113 y771.length co113] rfl ?_; (with_reducible refine (region_Count.calls kj2 _ _ l1_3 _ _ y771 t774 _ ?side1 ?side2 ?side3 ?side4 A96.out).mono ?_); (case side1 => exact cb_ HR1_3 HB); (case side2 => exact HC1_3.out); (case side3 => repeat (first | exact (Kd.R_reads' HO773.out).2.2 | (with_reducible refine Kd.C_alloc ?_ _) | (with_reducible refine Kd.C_drewN ?_ _) | (with_reducible refine Kd.C_drew ?_))); (case side4 => exact (Kd.R_reads' HO773.out).2.1); rintro e w114 ⟨rfl, hb⟩; refine ⟨_, rfl, ?_⟩; have n0_ := Aside0.mk (Kd.R_below (by (with_reducible repeat (first | apply Kd.R_alloc | apply Kd.R_drewN | apply Kd.R_drew)); exact HO761.out) hb); have n1_ := Aside0.mk (Kd.R_below (by (with_reducible repeat (first | apply Kd.R_alloc | apply Kd.R_drewN | apply Kd.R_drew)); exact HO765.out) hb); have n2_ := Aside0.mk (Kd.R_below (by (with_reducible repeat (first | apply Kd.R_alloc | apply Kd.R_drewN | apply Kd.R_drew)); exact HO769.out) hb); have n3_ := Aside0.mk (Kd.R_below (by (with_reducible repeat (first | apply Kd.R_alloc | apply Kd.R_drewN | apply Kd.R_drew)); exact HO773.out) hb); have n4_ := bb_ BK749 hb; have n5_ := bb_ BK750 hb; have n6_ := bb_ BK758 hb; have n7_ := bs_ HB hb; clear HO761; clear HO765; clear HO769; clear HO773; clear BK749; clear BK750; clear BK758; clear HB; have HO761 := n0_; have HO765 := n1_; have HO769 := n2_; have HO773 := n3_; have BK749 := n4_; have BK750 := n5_; have BK758 := n6_; have HB := n7_; clear n0_ n1_ n2_ n3_ n4_ n5_ n6_ n7_; (try clear hb); (try clear hb2); (try clear hk); (try clear hi)))
          go_meet
          case rel => exact ⟨_, (false), (by first | rfl | (simp; done) | (simp [*]; done)), H', ⟨by have := HJ2.out; first | omega | exact Nat.le_refl _⟩, ⟨by (with_reducible repeat (first | refine blk_drewN ?_ _ | refine blk_drew ?_ | refine blk_alloc ?_ _)); exact BK749.out⟩, ⟨by (with_reducible repeat (first | refine blk_drewN ?_ _ | refine blk_drew ?_ | refine blk_alloc ?_ _)); exact BK750.out⟩, ⟨by (with_reducible repeat (first | refine blk_drewN ?_ _ | refine blk_drew ?_ | refine blk_alloc ?_ _)); exact BK758.out⟩, ⟨by repeat (first | (with_reducible first | exact HB.out | apply below_alloc | apply pw_below_drewN | apply below_drew1 | refine below_set ?_ GE749.out | refine below_set ?_ GE750.out | refine below_set ?_ GE758.out) | exact HB.out)⟩⟩
        case rest =>
         clear HC78
         try clear c1
         try clear c2
         try clear p2
         try clear c3
         try clear c4
         try clear c6
         try clear c7
         try clear c8
         try clear c9
         try clear c10
         try clear c11
         try clear c12
         try clear c15
         try clear c17
         try clear c21
         try clear c23
         try clear c28
         try clear c31
         try clear c33
         try clear c34
         try clear c37
         try clear c37b0
         try clear c38
         try clear c39
         try clear c46
         try clear c46b0
         try clear c47
         try clear c48
         try clear c60
         try clear c60b0
         try clear c61
         try clear c62
         try clear c79
         try clear c80
         try clear c97
         try clear c97b0
         try clear c98
         try clear c99
         try clear c106
         try clear c108
         try clear c109
         try clear hcz100_0
         try clear hcz100_1
         try clear hcz100_2
         try clear hcz100_3
         try clear hcz105_0
         try clear hcz105_1
         try clear hcz105_2
         try clear hcz105_3
         try clear hcz107_0
         try clear hcz107_1
         try clear hcz107_2
         try clear hcz110_0
         try clear hcz110_1
         try clear hcz110_2
         try clear hcz110_3
         try clear hcz12_0
         try clear hcz12_1
         try clear hcz12_2
         try clear hcz12_3
         try clear hcz13_0
         try clear hcz13_1
         try clear hcz13_2
         try clear hcz15_0
         try clear hcz15_1
         try clear hcz15_2
         try clear hcz15_3
         try clear hcz18_0
         try clear hcz18_1
         try clear hcz18_2
         try clear hcz18_3
         try clear hcz19_0
         try clear hcz19_1
         try clear hcz19_2
         try clear hcz22_0
         try clear hcz22_1
         try clear hcz22_2
         try clear hcz22_3
         try clear hcz29_0
         try clear hcz29_1
         try clear hcz29_2
         try clear hcz30_0
         try clear hcz30_1
         try clear hcz30_2
         try clear hcz30_3
         try clear hcz35_0
         try clear hcz35_1
         try clear hcz35_2
         try clear hcz40_0
         try clear hcz40_1
         try clear hcz40_2
         try clear hcz40_3
         try clear hcz49_0
         try clear hcz49_1
         try clear hcz49_2
         try clear hcz49_3
         try clear hcz54_0
         try clear hcz54_1
         try clear hcz54_2
         try clear hcz54_3
         try clear hcz63_0
         try clear hcz63_1
         try clear hcz63_2
         try clear hcz63_3
         try clear hcz68_0
         try clear hcz68_1
         try clear hcz68_2
         try clear hcz68_3
         try clear hcz73_0
         try clear hcz73_1
         try clear hcz73_2
         try clear hcz73_3
         try clear hcz81_0
         try clear hcz81_1
         try clear hcz81_2
         try clear hcz81_3
         try clear hcz86_0
         try clear hcz86_1
         try clear hcz86_2
         try clear hcz86_3
         try clear hcz91_0
         try clear hcz91_1
         try clear hcz91_2
         try clear hcz91_3
         try clear hfz100_0
         try clear hfz100_1
         try clear hfz100_2
         try clear hfz100_3
         try clear hfz105_0
         try clear hfz105_1
         try clear hfz105_2
         try clear hfz105_3
         try clear hfz107_0
         try clear hfz107_1
         try clear hfz107_2
         try clear hfz110_0
         try clear hfz110_1
         try clear hfz110_2
         try clear hfz110_3
         try clear hfz12_0
         try clear hfz12_1
         try clear hfz12_2
         try clear hfz12_3
         try clear hfz13_0
         try clear hfz13_1
         try clear hfz13_2
         try clear hfz15_0
         try clear hfz15_1
         try clear hfz15_2
         try clear hfz15_3
         try clear hfz18_0
         try clear hfz18_1
         try clear hfz18_2
         try clear hfz18_3
         try clear hfz19_0
         try clear hfz19_1
         try clear hfz19_2
         try clear hfz22_0
         try clear hfz22_1
         try clear hfz22_2
         try clear hfz22_3
         try clear hfz29_0
         try clear hfz29_1
         try clear hfz29_2
         try clear hfz30_0
         try clear hfz30_1
         try clear hfz30_2
         try clear hfz30_3
         try clear hfz35_0
         try clear hfz35_1
         try clear hfz35_2
         try clear hfz40_0
         try clear hfz40_1
         try clear hfz40_2
         try clear hfz40_3
         try clear hfz49_0
         try clear hfz49_1
         try clear hfz49_2
         try clear hfz49_3
         try clear hfz54_0
         try clear hfz54_1
         try clear hfz54_2
         try clear hfz54_3
         try clear hfz63_0
         try clear hfz63_1
         try clear hfz63_2
         try clear hfz63_3
         try clear hfz68_0
         try clear hfz68_1
         try clear hfz68_2
         try clear hfz68_3
         try clear hfz73_0
         try clear hfz73_1
         try clear hfz73_2
         try clear hfz73_3
         try clear hfz81_0
         try clear hfz81_1
         try clear hfz81_2
         try clear hfz81_3
         try clear hfz86_0
         try clear hfz86_1
         try clear hfz86_2
         try clear hfz86_3
         try clear hfz91_0
         try clear hfz91_1
         try clear hfz91_2
         try clear hfz91_3
         try clear p2
         obtain ⟨kq, x46_77, rfl, HA, HJ77, BK749, BK750, BK758, HB⟩ := hcut
         cases kq with
         | zero => exact absurd HA.out (by simp [salvorlaw18_PlanOrder.j1])
         | succ kj77 =>
          have H := HA.out
          clear HA
          simp only [salvorlaw18_PlanOrder.j1] at H
          by_cases c115 : x46_77 = true
          ·subst c115
           have H1 : (salvorlaw18_PlanOrder.j2 kj77 4 a0_0 a0_1 a0_2 a1_0 a1_1 a1_2 l1_3 t755 t756 t757) = some r := by rw [if_pos rfl] at H; exact H
           clear H
           have H := H1
           clear H1
           have H' := Aside0.mk H
           clear H
           go_wp2
           go_meet
           case rel => exact ⟨_, (4), (by first | rfl | (simp; done) | (simp [*]; done)), H', ⟨by have := HJ2.out; have := HJ77.out; first | omega | exact Nat.le_refl _⟩, ⟨by (with_reducible repeat (first | refine blk_drewN ?_ _ | refine blk_drew ?_ | refine blk_alloc ?_ _)); exact BK749.out⟩, ⟨by (with_reducible repeat (first | refine blk_drewN ?_ _ | refine blk_drew ?_ | refine blk_alloc ?_ _)); exact BK750.out⟩, ⟨by (with_reducible repeat (first | refine blk_drewN ?_ _ | refine blk_drew ?_ | refine blk_alloc ?_ _)); exact BK758.out⟩, ⟨by repeat (first | (with_reducible first | exact HB.out | apply below_alloc | apply pw_below_drewN | apply below_drew1 | refine below_set ?_ GE749.out | refine below_set ?_ GE750.out | refine below_set ?_ GE758.out) | exact HB.out)⟩⟩
          ·replace c115 := Bool.eq_false_iff.mpr c115
           subst c115
           have H1 : (salvorlaw18_PlanOrder.j2 kj77 0 a0_0 a0_1 a0_2 a1_0 a1_1 a1_2 l1_3 t755 t756 t757) = some r := by rw [if_neg (show ¬ (false = true) by decide)] at H; exact H
           clear H
           have H := H1
           clear H1
           have H' := Aside0.mk H
           clear H
           go_wp2
           go_meet
           case rel => exact ⟨_, (0), (by first | rfl | (simp; done) | (simp [*]; done)), H', ⟨by have := HJ2.out; have := HJ77.out; first | omega | exact Nat.le_refl _⟩, ⟨by (with_reducible repeat (first | refine blk_drewN ?_ _ | refine blk_drew ?_ | refine blk_alloc ?_ _)); exact BK749.out⟩, ⟨by (with_reducible repeat (first | refine blk_drewN ?_ _ | refine blk_drew ?_ | refine blk_alloc ?_ _)); exact BK750.out⟩, ⟨by (with_reducible repeat (first | refine blk_drewN ?_ _ | refine blk_drew ?_ | refine blk_alloc ?_ _)); exact BK758.out⟩, ⟨by repeat (first | (with_reducible first | exact HB.out | apply below_alloc | apply pw_below_drewN | apply below_drew1 | refine below_set ?_ GE749.out | refine below_set ?_ GE750.out | refine below_set ?_ GE758.out) | exact HB.out)⟩⟩
    case rest =>
     clear HC27
     try clear c1
     try clear c2
     try clear p2
     try clear c3
     try clear c4
     try clear c6
     try clear c7
     try clear c8
     try clear c9
     try clear c10
     try clear c11
     try clear c12
     try clear c15
     try clear c17
     try clear c21
     try clear c23
     try clear c28
     try clear c31
     try clear c33
     try clear c34
     try clear c37
     try clear c37b0
     try clear c38
     try clear c39
     try clear c46
     try clear c46b0
     try clear c47
     try clear c48
     try clear c60
     try clear c60b0
     try clear c61
     try clear c62
     try clear c79
     try clear c80
     try clear c97
     try clear c97b0
     try clear c98
     try clear c99
     try clear c106
     try clear c108
     try clear c109
     try clear c115
     try clear hcz100_0
     try clear hcz100_1
     try clear hcz100_2
     try clear hcz100_3
     try clear hcz105_0
     try clear hcz105_1
     try clear hcz105_2
     try clear hcz105_3
     try clear hcz107_0
     try clear hcz107_1
     try clear hcz107_2
     try clear hcz110_0
     try clear hcz110_1
     try clear hcz110_2
     try clear hcz110_3
     try clear hcz12_0
     try clear hcz12_1
     try clear hcz12_2
     try clear hcz12_3
     try clear hcz13_0
     try clear hcz13_1
     try clear hcz13_2
     try clear hcz15_0
     try clear hcz15_1
     try clear hcz15_2
     try clear hcz15_3
     try clear hcz18_0
     try clear hcz18_1
     try clear hcz18_2
     try clear hcz18_3
     try clear hcz19_0
     try clear hcz19_1
     try clear hcz19_2
     try clear hcz22_0
     try clear hcz22_1
     try clear hcz22_2
     try clear hcz22_3
     try clear hcz29_0
     try clear hcz29_1
     try clear hcz29_2
     try clear hcz30_0
     try clear hcz30_1
     try clear hcz30_2
     try clear hcz30_3
     try clear hcz35_0
     try clear hcz35_1
     try clear hcz35_2
     try clear hcz40_0
     try clear hcz40_1
     try clear hcz40_2
     try clear hcz40_3
     try clear hcz49_0
     try clear hcz49_1
     try clear hcz49_2
     try clear hcz49_3
     try clear hcz54_0
     try clear hcz54_1
     try clear hcz54_2
     try clear hcz54_3
     try clear hcz63_0
     try clear hcz63_1
     try clear hcz63_2
     try clear hcz63_3
     try clear hcz68_0
     try clear hcz68_1
     try clear hcz68_2
     try clear hcz68_3
     try clear hcz73_0
     try clear hcz73_1
     try clear hcz73_2
     try clear hcz73_3
     try clear hcz81_0
     try clear hcz81_1
     try clear hcz81_2
     try clear hcz81_3
     try clear hcz86_0
     try clear hcz86_1
     try clear hcz86_2
     try clear hcz86_3
     try clear hcz91_0
     try clear hcz91_1
     try clear hcz91_2
     try clear hcz91_3
     try clear hfz100_0
     try clear hfz100_1
     try clear hfz100_2
     try clear hfz100_3
     try clear hfz105_0
     try clear hfz105_1
     try clear hfz105_2
     try clear hfz105_3
     try clear hfz107_0
     try clear hfz107_1
     try clear hfz107_2
     try clear hfz110_0
     try clear hfz110_1
     try clear hfz110_2
     try clear hfz110_3
     try clear hfz12_0
     try clear hfz12_1
     try clear hfz12_2
     try clear hfz12_3
     try clear hfz13_0
     try clear hfz13_1
     try clear hfz13_2
     try clear hfz15_0
     try clear hfz15_1
     try clear hfz15_2
     try clear hfz15_3
     try clear hfz18_0
     try clear hfz18_1
     try clear hfz18_2
     try clear hfz18_3
     try clear hfz19_0
     try clear hfz19_1
     try clear hfz19_2
     try clear hfz22_0
     try clear hfz22_1
     try clear hfz22_2
     try clear hfz22_3
     try clear hfz29_0
     try clear hfz29_1
     try clear hfz29_2
     try clear hfz30_0
     try clear hfz30_1
     try clear hfz30_2
     try clear hfz30_3
     try clear hfz35_0
     try clear hfz35_1
     try clear hfz35_2
     try clear hfz40_0
     try clear hfz40_1
     try clear hfz40_2
     try clear hfz40_3
     try clear hfz49_0
     try clear hfz49_1
     try clear hfz49_2
     try clear hfz49_3
     try clear hfz54_0
     try clear hfz54_1
     try clear hfz54_2
     try clear hfz54_3
     try clear hfz63_0
     try clear hfz63_1
     try clear hfz63_2
     try clear hfz63_3
     try clear hfz68_0
     try clear hfz68_1
     try clear hfz68_2
     try clear hfz68_3
     try clear hfz73_0
     try clear hfz73_1
     try clear hfz73_2
     try clear hfz73_3
     try clear hfz81_0
     try clear hfz81_1
     try clear hfz81_2
     try clear hfz81_3
     try clear hfz86_0
     try clear hfz86_1
     try clear hfz86_2
     try clear hfz86_3
     try clear hfz91_0
     try clear hfz91_1
     try clear hfz91_2
     try clear hfz91_3
     try clear p2
     obtain ⟨kq, x6_26, rfl, HA, HJ26, BK749, BK750, BK758, HB⟩ := hcut
     cases kq with
     | zero => exact absurd HA.out (by simp [salvorlaw18_PlanOrder.j2])
     | succ kj26 =>
      have H := HA.out
      clear HA
      simp only [salvorlaw18_PlanOrder.j2] at H
      replace H := Option.bind_eq_some_iff.mp H
      obtain ⟨⟨t775, t776, t777, t778⟩, A1160, H⟩ := H
      replace H : ((plan_Next.f kj26 a0_0 a0_1 a0_2 t775 t776 t777 t778).bind fun bt782 => ((salvorref16_StatusOf.f bt782.1).bind fun t786 => (if x6_26 = 4 then (salvorlaw18_PlanOrder.j3 kj26 x6_26 t786 (t755 == 0) a0_0 a0_1 a0_2 a1_0 a1_1 a1_2 l1_3 t755 t756 t757 t775 t776 t777 t778 bt782.1 bt782.2.1 bt782.2.2) else (salvorlaw18_PlanOrder.j3 kj26 x6_26 t786 false a0_0 a0_1 a0_2 a1_0 a1_1 a1_2 l1_3 t755 t756 t757 t775 t776 t777 t778 bt782.1 bt782.2.1 bt782.2.2)))) = some r := H
      have A116 := Aside0.mk A1160
      clear A1160
      replace H := Option.bind_eq_some_iff.mp H
      obtain ⟨⟨t782, t783, t784⟩, A1170, H⟩ := H
      replace H : ((salvorref16_StatusOf.f t782).bind fun t786 => (if x6_26 = 4 then (salvorlaw18_PlanOrder.j3 kj26 x6_26 t786 (t755 == 0) a0_0 a0_1 a0_2 a1_0 a1_1 a1_2 l1_3 t755 t756 t757 t775 t776 t777 t778 t782 t783 t784) else (salvorlaw18_PlanOrder.j3 kj26 x6_26 t786 false a0_0 a0_1 a0_2 a1_0 a1_1 a1_2 l1_3 t755 t756 t757 t775 t776 t777 t778 t782 t783 t784))) = some r := H
      have A117 := Aside0.mk A1170
      clear A1170
      replace H := Option.bind_eq_some_iff.mp H
      obtain ⟨t786, A1180, H⟩ := H
      replace H : (if x6_26 = 4 then (salvorlaw18_PlanOrder.j3 kj26 x6_26 t786 (t755 == 0) a0_0 a0_1 a0_2 a1_0 a1_1 a1_2 l1_3 t755 t756 t757 t775 t776 t777 t778 t782 t783 t784) else (salvorlaw18_PlanOrder.j3 kj26 x6_26 t786 false a0_0 a0_1 a0_2 a1_0 a1_1 a1_2 l1_3 t755 t756 t757 t775 t776 t777 t778 t782 t783 t784)) = some r := H
      have A118 := Aside0.mk A1180
      clear A1180
      have HC119 := Aside0.mk H
      clear H
      have hnb120 := NB749_750.out
      have hnc120 := NB750_749.out
      have hnb121 := NB749_758.out
      have hnc121 := NB758_749.out
      have hcz122_0 : wc.cell? ⟨gb749, 0, none⟩ = some (.int .i64 a0_0) := (blk_cell BK749.out 0).trans rfl
      have hcz122_1 : wc.cell? ⟨gb749, 1, none⟩ = some (.int .i64 a0_1) := (blk_cell BK749.out 1).trans rfl
      have hcz122_2 : wc.cell? ⟨gb749, 2, none⟩ = some (.bool a0_2) := (blk_cell BK749.out 2).trans rfl
      have hfz122_0 := blk_frozen BK749.out 0
      have hfz122_1 := blk_frozen BK749.out 1
      have hfz122_2 := blk_frozen BK749.out 2
      have hnb123 := NB750_758.out
      have hnc123 := NB758_750.out
      have hcz124_0 : wc.cell? ⟨gb750, 0, none⟩ = some (.int .i64 a1_0) := (blk_cell BK750.out 0).trans rfl
      have hcz124_1 : wc.cell? ⟨gb750, 1, none⟩ = some (.int .i64 a1_1) := (blk_cell BK750.out 1).trans rfl
      have hcz124_2 : wc.cell? ⟨gb750, 2, none⟩ = some (.int .u8 a1_2) := (blk_cell BK750.out 2).trans rfl
      have hcz124_3 : wc.cell? ⟨gb750, 3, none⟩ = some (.slice A1_3 l1_3.length c1_3) := (blk_cell BK750.out 3).trans rfl
      have hfz124_0 := blk_frozen BK750.out 0
      have hfz124_1 := blk_frozen BK750.out 1
      have hfz124_2 := blk_frozen BK750.out 2
      have hfz124_3 := blk_frozen BK750.out 3
      go_upto_region 16 with (first | ((with_reducible refine gate_callee (f := 28) rfl ?_); refine gl_ (some 61) rfl rfl Try.func28 (by kernel_rfl) rfl #[.agg #[.int .i64 a0_0, .int .i64 a0_1, .bool a0_2], .agg #[.int .i64 a1_0, .int .i64 a1_1, .int .u8 a1_2, .slice A1_3 l1_3.length c1_3]] rfl ?_; (with_reducible refine (plan_Begin.calls kj26 a0_0 a0_1 a0_2 a1_0 a1_1 a1_2 _ _ l1_3 t775 t776 t777 t778 _ ?side1 ?side2 A116.out).mono ?_); (case side1 => exact cb_ HR1_3 HB); (case side2 => exact HC1_3.out); rintro e w125 ⟨v779, rfl, ho0, hb⟩; refine ⟨_, rfl, ?_⟩; have HO780 := Aside0.mk (Kd.R_lower ho0 (below_size (bh_ HB))); replace BK749 := bb_ BK749 hb; replace BK750 := bb_ BK750 hb; replace BK758 := bb_ BK758 hb; replace HB := bs_ HB hb; (try clear hb); (try clear hb2); (try clear hk); (try clear hi); (try clear ho0)) | ((with_reducible refine gate_dst (N := 7) rfl ?_); (try (refine gate_guard (by rfl) ?_; dsimp only)); refine box_e 7 #[.int .i64 0, .int .i64 0, .int .u8 0, .slice none 0 0] 26 ?_; intro gb781 hg w126 hbox hb; have n0_ := Aside0.mk (Kd.R_below (by (with_reducible repeat (first | apply Kd.R_alloc | apply Kd.R_drewN | apply Kd.R_drew)); exact HO780.out) hb); have n1_ := bb_ BK749 hb; have n2_ := bb_ BK750 hb; have n3_ := bb_ BK758 hb; have n4_ := bs_ HB hb; have n5_ := Aside0.mk hbox; have n6_ := bg_ HB hg; have n7_ := bg_ HB hg; have n8_ := bn_ BK749 hg; have n9_ := bm_ BK749 hg; have n10_ := bn_ BK750 hg; have n11_ := bm_ BK750 hg; have n12_ := bn_ BK758 hg; have n13_ := bm_ BK758 hg; clear HO780; clear BK749; clear BK750; clear BK758; clear HB; have HO780 := n0_; have BK749 := n1_; have BK750 := n2_; have BK758 := n3_; have HB := n4_; have BK781 := n5_; have GW781 := n6_; have GE781 := n7_; have NB749_781 := n8_; have NB781_749 := n9_; have NB750_781 := n10_; have NB781_750 := n11_; have NB758_781 := n12_; have NB781_758 := n13_; clear n0_ n1_ n2_ n3_ n4_ n5_ n6_ n7_ n8_ n9_ n10_ n11_ n12_ n13_; clear hb hbox hg; have hnb127 := NB781_749.out; have hnc127 := NB749_781.out; have hnb128 := NB781_750.out; have hnc128 := NB750_781.out; have hnb129 := NB781_758.out; have hnc129 := NB758_781.out; have hcz130_0 : w126.cell? ⟨gb781, 0, none⟩ = some (.int .i64 0) := (blk_cell BK781.out 0).trans rfl; have hcz130_1 : w126.cell? ⟨gb781, 1, none⟩ = some (.int .i64 0) := (blk_cell BK781.out 1).trans rfl; have hcz130_2 : w126.cell? ⟨gb781, 2, none⟩ = some (.int .u8 0) := (blk_cell BK781.out 2).trans rfl; have hcz130_3 : w126.cell? ⟨gb781, 3, none⟩ = some (.slice none 0 0) := (blk_cell BK781.out 3).trans rfl; have hfz130_0 := blk_frozen BK781.out 0; have hfz130_1 := blk_frozen BK781.out 1; have hfz130_2 := blk_frozen BK781.out 2; have hfz130_3 := blk_frozen BK781.out 3; obtain ⟨Ao131, co131, eo131⟩ := Kd.R_slice HO780.out; subst eo131; have hcz132_0 : w126.cell? ⟨gb749, 0, none⟩ = some (.int .i64 a0_0) := (blk_cell BK749.out 0).trans rfl; have hcz132_1 : w126.cell? ⟨gb749, 1, none⟩ = some (.int .i64 a0_1) := (blk_cell BK749.out 1).trans rfl; have hcz132_2 : w126.cell? ⟨gb749, 2, none⟩ = some (.bool a0_2) := (blk_cell BK749.out 2).trans rfl; have hfz132_0 := blk_frozen BK749.out 0; have hfz132_1 := blk_frozen BK749.out 1; have hfz132_2 := blk_frozen BK749.out 2) | ((with_reducible refine gate_callee (f := 12) rfl ?_); refine gl_ (some 64) rfl rfl Try.func12 (by kernel_rfl) rfl #[.agg #[.int .i64 a0_0, .int .i64 a0_1, .bool a0_2], .agg #[.int .i64 t775, .int .i64 t776, .int .u8 t777, .slice Ao131 t778.length co131]] rfl ?_; (with_reducible refine (plan_Next.calls kj26 a0_0 a0_1 a0_2 t775 t776 t777 _ _ t778 t782 t783 t784 _ ?side1 ?side2 A117.out).mono ?_); (case side1 => refine (Kd.R_reads' (e := 33) (base := w.heap.size) (ok := fun k_ => True) (n := t778.length) (c := co131) ?_).2.2; exact (by (with_reducible repeat (first | apply Kd.R_alloc | apply Kd.R_drewN | apply Kd.R_drew)); exact (Kd.R_mono (Kd.R_far (p := ⟨gb781, 3, none⟩) (Kd.R_far (p := ⟨gb781, 2, none⟩) (Kd.R_far (p := ⟨gb781, 1, none⟩) (Kd.R_far (p := ⟨gb781, 0, none⟩) (Kd.R_types HO780.out BK781.out (by decide)) (fun _ hk => hk.2) (.int .i64 t775)) (fun _ hk => hk.2) (.int .i64 t776)) (fun _ hk => hk.2) (.int .u8 t777)) (fun _ hk => hk.2) (.slice Ao131 t778.length co131)) (fun _ h_ => h_.1)))); (case side2 => exact (Kd.R_reads' HO780.out).2.1); rintro e w133 ⟨rfl, hb⟩; refine ⟨_, rfl, ?_⟩; have n0_ := Aside0.mk (Kd.R_below (by (with_reducible repeat (first | apply Kd.R_alloc | apply Kd.R_drewN | apply Kd.R_drew)); exact (Kd.R_mono (Kd.R_far (p := ⟨gb781, 3, none⟩) (Kd.R_far (p := ⟨gb781, 2, none⟩) (Kd.R_far (p := ⟨gb781, 1, none⟩) (Kd.R_far (p := ⟨gb781, 0, none⟩) (Kd.R_types HO780.out BK781.out (by decide)) (fun _ hk => hk.2) (.int .i64 t775)) (fun _ hk => hk.2) (.int .i64 t776)) (fun _ hk => hk.2) (.int .u8 t777)) (fun _ hk => hk.2) (.slice Ao131 t778.length co131)) (fun _ h_ => h_.1))) hb); have n1_ := Aside0.mk (blk_below (g := gb749) (o := .cells #[.int .i64 a0_0, .int .i64 a0_1, .bool a0_2] 23 (0, 0)) (bp_ BK749) hb); have n2_ := Aside0.mk (blk_below (g := gb750) (o := .cells #[.int .i64 a1_0, .int .i64 a1_1, .int .u8 a1_2, .slice A1_3 l1_3.length c1_3] 26 (0, 0)) (bp_ BK750) hb); have n3_ := Aside0.mk (blk_below (g := gb758) (o := .cells #[.int .i64 t755, .int .i64 t756, .int .i64 t757] 29 (0, 0)) (bp_ BK758) hb); have n4_ := Aside0.mk (blk_below (g := gb781) (o := .cells #[.int .i64 t775, .int .i64 t776, .int .u8 t777, .slice Ao131 t778.length co131] 26 (0, 0)) (bp_ BK781) hb); have n5_ := bs_ HB hb; clear HO780; clear BK749; clear BK750; clear BK758; clear BK781; clear HB; have HO780 := n0_; have BK749 := n1_; have BK750 := n2_; have BK758 := n3_; have BK781 := n4_; have HB := n5_; clear n0_ n1_ n2_ n3_ n4_ n5_; (try clear hb); (try clear hb2); (try clear hk); (try clear hi)) | ((with_reducible refine gate_dst (N := 8) rfl ?_); (try (refine gate_guard (by rfl) ?_; dsimp only)); refine box_e 8 #[.int .i64 0, .int .i64 0, .int .i64 0] 29 ?_; intro gb785 hg w134 hbox hb; have n0_ := Aside0.mk (Kd.R_below (by (with_reducible repeat (first | apply Kd.R_alloc | apply Kd.R_drewN | apply Kd.R_drew)); exact HO780.out) hb); have n1_ := bb_ BK749 hb; have n2_ := bb_ BK750 hb; have n3_ := bb_ BK758 hb; have n4_ := bb_ BK781 hb; have n5_ := bs_ HB hb; have n6_ := Aside0.mk hbox; have n7_ := bg_ HB hg; have n8_ := bg_ HB hg; have n9_ := bn_ BK749 hg; have n10_ := bm_ BK749 hg; have n11_ := bn_ BK750 hg; have n12_ := bm_ BK750 hg; have n13_ := bn_ BK758 hg; have n14_ := bm_ BK758 hg; have n15_ := bn_ BK781 hg; have n16_ := bm_ BK781 hg; clear HO780; clear BK749; clear BK750; clear BK758; clear BK781; clear HB; have HO780 := n0_; have BK749 := n1_; have BK750 := n2_; have BK758 := n3_; have BK781 := n4_; have HB := n5_; have BK785 := n6_; have GW785 := n7_; have GE785 := n8_; have NB749_785 := n9_; have NB785_749 := n10_; have NB750_785 := n11_; have NB785_750 := n12_; have NB758_785 := n13_; have NB785_758 := n14_; have NB781_785 := n15_; have NB785_781 := n16_; clear n0_ n1_ n2_ n3_ n4_ n5_ n6_ n7_ n8_ n9_ n10_ n11_ n12_ n13_ n14_ n15_ n16_; clear hb hbox hg; have hnb135 := NB785_749.out; have hnc135 := NB749_785.out; have hnb136 := NB785_750.out; have hnc136 := NB750_785.out; have hnb137 := NB785_758.out; have hnc137 := NB758_785.out; have hnb138 := NB785_781.out; have hnc138 := NB781_785.out; have hcz139_0 : w134.cell? ⟨gb785, 0, none⟩ = some (.int .i64 0) := (blk_cell BK785.out 0).trans rfl; have hcz139_1 : w134.cell? ⟨gb785, 1, none⟩ = some (.int .i64 0) := (blk_cell BK785.out 1).trans rfl; have hcz139_2 : w134.cell? ⟨gb785, 2, none⟩ = some (.int .i64 0) := (blk_cell BK785.out 2).trans rfl; have hfz139_0 := blk_frozen BK785.out 0; have hfz139_1 := blk_frozen BK785.out 1; have hfz139_2 := blk_frozen BK785.out 2) | ((with_reducible refine gate_callee (f := 32) rfl ?_); refine gl_ (some 67) rfl rfl Try.func32 (by kernel_rfl) rfl #[.int .i64 t782] rfl ?_; (with_reducible refine (salvorref16_StatusOf.calls t782 t786 _ A118.out).mono ?_); rintro e w' ⟨rfl, ⟨nd, rfl⟩⟩; refine ⟨_, rfl, ?_⟩))
      (try simp only [Act.put, List.setIfInBounds_toArray, List.set_cons_zero, List.set_cons_succ])
      go_cut [74] (fun v74 wc => ∃ (kq : Nat) (x74_118 : Bool), v74 = .bool x74_118 ∧ Aside0 (salvorlaw18_PlanOrder.j3 kq x6_26 t786 x74_118 a0_0 a0_1 a0_2 a1_0 a1_1 a1_2 l1_3 t755 t756 t757 t775 t776 t777 t778 t782 t783 t784 = some r) ∧ Aside0 (kq ≤ kj26) ∧ Aside0 (Kd.R k33 33 wc w.heap.size (fun _ => True) (.slice Ao131 t778.length co131) t778) ∧ Aside0 (wc.heap[gb749]? = some (.cells #[.int .i64 a0_0, .int .i64 a0_1, .bool a0_2] 23 (0, 0))) ∧ Aside0 (wc.heap[gb750]? = some (.cells #[.int .i64 a1_0, .int .i64 a1_1, .int .u8 a1_2, (.slice A1_3 l1_3.length c1_3)] 26 (0, 0))) ∧ Aside0 (wc.heap[gb758]? = some (.cells #[.int .i64 t755, .int .i64 t756, .int .i64 t757] 29 (0, 0))) ∧ Aside0 (wc.heap[gb781]? = some (.cells #[.int .i64 t775, .int .i64 t776, .int .u8 t777, (.slice Ao131 t778.length co131)] 26 (0, 0))) ∧ Aside0 (wc.heap[gb785]? = some (.cells #[.int .i64 t782, .int .i64 t783, .int .i64 t784] 29 (0, 0))) ∧ Aside0 (Below w.heap.size w wc))
      case first =>
       have H := HC119.out
       clear HC119
       by_cases c140 : x6_26 = 4
       ·rw [if_pos c140] at H
        have c140b0 : (x6_26 == 4) = true := beq_iff_eq.mpr c140
        have c140b1 : (x6_26 != 4) = false := bne_eq_false_iff_eq.mpr c140
        clear c140
        (first | rw [c140b0] | (simp only [i64_w, i32_w]; rw [c140b0]) | skip)
        have H' := Aside0.mk H
        clear H
        have hnb141 := NB758_749.out
        have hnc141 := NB749_758.out
        have hnb142 := NB758_750.out
        have hnc142 := NB750_758.out
        have hnb143 := NB758_781.out
        have hnc143 := NB781_758.out
        have hnb144 := NB758_785.out
        have hnc144 := NB785_758.out
        have hcz145_0 : w134.cell? ⟨gb758, 0, none⟩ = some (.int .i64 t755) := (blk_cell BK758.out 0).trans rfl
        have hcz145_1 : w134.cell? ⟨gb758, 1, none⟩ = some (.int .i64 t756) := (blk_cell BK758.out 1).trans rfl
        have hcz145_2 : w134.cell? ⟨gb758, 2, none⟩ = some (.int .i64 t757) := (blk_cell BK758.out 2).trans rfl
        have hfz145_0 := blk_frozen BK758.out 0
        have hfz145_1 := blk_frozen BK758.out 1
        have hfz145_2 := blk_frozen BK758.out 2
        go_wp2
        go_meet
        case rel => exact ⟨_, ((t755 == 0)), (by first | rfl | (simp; done) | (simp [*]; done)), H', ⟨by have := HJ2.out; have := HJ26.out; first | omega | exact Nat.le_refl _⟩, ⟨by (with_reducible repeat (first | apply Kd.R_alloc | apply Kd.R_drewN | apply Kd.R_drew)); exact Kd.R_mono (Kd.R_far (p := ⟨gb785, 2, none⟩) (Kd.R_far (p := ⟨gb785, 1, none⟩) (Kd.R_far (p := ⟨gb785, 0, none⟩) (Kd.R_types HO780.out BK785.out (by decide)) (fun _ hk => hk.2) (.int .i64 t782)) (fun _ hk => hk.2) (.int .i64 t783)) (fun _ hk => hk.2) (.int .i64 t784)) (fun _ hk => trivial)⟩, ⟨by (with_reducible repeat (first | refine blk_drewN ?_ _ | refine blk_drew ?_ | refine blk_alloc ?_ _)); refine blk_far ?_ NB749_785.out _; (with_reducible repeat (first | refine blk_drewN ?_ _ | refine blk_drew ?_ | refine blk_alloc ?_ _)); refine blk_far ?_ NB749_785.out _; (with_reducible repeat (first | refine blk_drewN ?_ _ | refine blk_drew ?_ | refine blk_alloc ?_ _)); refine blk_far ?_ NB749_785.out _; (with_reducible repeat (first | refine blk_drewN ?_ _ | refine blk_drew ?_ | refine blk_alloc ?_ _)); exact BK749.out⟩, ⟨by (with_reducible repeat (first | refine blk_drewN ?_ _ | refine blk_drew ?_ | refine blk_alloc ?_ _)); refine blk_far ?_ NB750_785.out _; (with_reducible repeat (first | refine blk_drewN ?_ _ | refine blk_drew ?_ | refine blk_alloc ?_ _)); refine blk_far ?_ NB750_785.out _; (with_reducible repeat (first | refine blk_drewN ?_ _ | refine blk_drew ?_ | refine blk_alloc ?_ _)); refine blk_far ?_ NB750_785.out _; (with_reducible repeat (first | refine blk_drewN ?_ _ | refine blk_drew ?_ | refine blk_alloc ?_ _)); exact BK750.out⟩, ⟨by (with_reducible repeat (first | refine blk_drewN ?_ _ | refine blk_drew ?_ | refine blk_alloc ?_ _)); refine blk_far ?_ NB758_785.out _; (with_reducible repeat (first | refine blk_drewN ?_ _ | refine blk_drew ?_ | refine blk_alloc ?_ _)); refine blk_far ?_ NB758_785.out _; (with_reducible repeat (first | refine blk_drewN ?_ _ | refine blk_drew ?_ | refine blk_alloc ?_ _)); refine blk_far ?_ NB758_785.out _; (with_reducible repeat (first | refine blk_drewN ?_ _ | refine blk_drew ?_ | refine blk_alloc ?_ _)); exact BK758.out⟩, ⟨by (with_reducible repeat (first | refine blk_drewN ?_ _ | refine blk_drew ?_ | refine blk_alloc ?_ _)); refine blk_far ?_ NB781_785.out _; (with_reducible repeat (first | refine blk_drewN ?_ _ | refine blk_drew ?_ | refine blk_alloc ?_ _)); refine blk_far ?_ NB781_785.out _; (with_reducible repeat (first | refine blk_drewN ?_ _ | refine blk_drew ?_ | refine blk_alloc ?_ _)); refine blk_far ?_ NB781_785.out _; (with_reducible repeat (first | refine blk_drewN ?_ _ | refine blk_drew ?_ | refine blk_alloc ?_ _)); exact BK781.out⟩, ⟨by (with_reducible repeat (first | refine blk_drewN ?_ _ | refine blk_drew ?_ | refine blk_alloc ?_ _)); refine blk_put (cs := #[.int .i64 t782, .int .i64 t783, .int .i64 0]) ?_ 2 _ rfl; (with_reducible repeat (first | refine blk_drewN ?_ _ | refine blk_drew ?_ | refine blk_alloc ?_ _)); refine blk_put (cs := #[.int .i64 t782, .int .i64 0, .int .i64 0]) ?_ 1 _ rfl; (with_reducible repeat (first | refine blk_drewN ?_ _ | refine blk_drew ?_ | refine blk_alloc ?_ _)); refine blk_put (cs := #[.int .i64 0, .int .i64 0, .int .i64 0]) ?_ 0 _ rfl; (with_reducible repeat (first | refine blk_drewN ?_ _ | refine blk_drew ?_ | refine blk_alloc ?_ _)); exact BK785.out⟩, ⟨by repeat (first | (with_reducible first | exact HB.out | apply below_alloc | apply pw_below_drewN | apply below_drew1 | refine below_set ?_ GE749.out | refine below_set ?_ GE750.out | refine below_set ?_ GE758.out | refine below_set ?_ GE781.out | refine below_set ?_ GE785.out) | exact HB.out)⟩⟩
       ·rw [if_neg c140] at H
        have c140b0 : (x6_26 == 4) = false := beq_eq_false_iff_ne.mpr c140
        have c140b1 : (x6_26 != 4) = true := bne_iff_ne.mpr c140
        (first | rw [c140b0] | (simp only [i64_w, i32_w]; rw [c140b0]) | skip)
        have H' := Aside0.mk H
        clear H
        go_wp2
        go_meet
        case rel => exact ⟨_, (false), (by first | rfl | (simp; done) | (simp [*]; done)), H', ⟨by have := HJ2.out; have := HJ26.out; first | omega | exact Nat.le_refl _⟩, ⟨by (with_reducible repeat (first | apply Kd.R_alloc | apply Kd.R_drewN | apply Kd.R_drew)); exact Kd.R_mono (Kd.R_far (p := ⟨gb785, 2, none⟩) (Kd.R_far (p := ⟨gb785, 1, none⟩) (Kd.R_far (p := ⟨gb785, 0, none⟩) (Kd.R_types HO780.out BK785.out (by decide)) (fun _ hk => hk.2) (.int .i64 t782)) (fun _ hk => hk.2) (.int .i64 t783)) (fun _ hk => hk.2) (.int .i64 t784)) (fun _ hk => trivial)⟩, ⟨by (with_reducible repeat (first | refine blk_drewN ?_ _ | refine blk_drew ?_ | refine blk_alloc ?_ _)); refine blk_far ?_ NB749_785.out _; (with_reducible repeat (first | refine blk_drewN ?_ _ | refine blk_drew ?_ | refine blk_alloc ?_ _)); refine blk_far ?_ NB749_785.out _; (with_reducible repeat (first | refine blk_drewN ?_ _ | refine blk_drew ?_ | refine blk_alloc ?_ _)); refine blk_far ?_ NB749_785.out _; (with_reducible repeat (first | refine blk_drewN ?_ _ | refine blk_drew ?_ | refine blk_alloc ?_ _)); exact BK749.out⟩, ⟨by (with_reducible repeat (first | refine blk_drewN ?_ _ | refine blk_drew ?_ | refine blk_alloc ?_ _)); refine blk_far ?_ NB750_785.out _; (with_reducible repeat (first | refine blk_drewN ?_ _ | refine blk_drew ?_ | refine blk_alloc ?_ _)); refine blk_far ?_ NB750_785.out _; (with_reducible repeat (first | refine blk_drewN ?_ _ | refine blk_drew ?_ | refine blk_alloc ?_ _)); refine blk_far ?_ NB750_785.out _; (with_reducible repeat (first | refine blk_drewN ?_ _ | refine blk_drew ?_ | refine blk_alloc ?_ _)); exact BK750.out⟩, ⟨by (with_reducible repeat (first | refine blk_drewN ?_ _ | refine blk_drew ?_ | refine blk_alloc ?_ _)); refine blk_far ?_ NB758_785.out _; (with_reducible repeat (first | refine blk_drewN ?_ _ | refine blk_drew ?_ | refine blk_alloc ?_ _)); refine blk_far ?_ NB758_785.out _; (with_reducible repeat (first | refine blk_drewN ?_ _ | refine blk_drew ?_ | refine blk_alloc ?_ _)); refine blk_far ?_ NB758_785.out _; (with_reducible repeat (first | refine blk_drewN ?_ _ | refine blk_drew ?_ | refine blk_alloc ?_ _)); exact BK758.out⟩, ⟨by (with_reducible repeat (first | refine blk_drewN ?_ _ | refine blk_drew ?_ | refine blk_alloc ?_ _)); refine blk_far ?_ NB781_785.out _; (with_reducible repeat (first | refine blk_drewN ?_ _ | refine blk_drew ?_ | refine blk_alloc ?_ _)); refine blk_far ?_ NB781_785.out _; (with_reducible repeat (first | refine blk_drewN ?_ _ | refine blk_drew ?_ | refine blk_alloc ?_ _)); refine blk_far ?_ NB781_785.out _; (with_reducible repeat (first | refine blk_drewN ?_ _ | refine blk_drew ?_ | refine blk_alloc ?_ _)); exact BK781.out⟩, ⟨by (with_reducible repeat (first | refine blk_drewN ?_ _ | refine blk_drew ?_ | refine blk_alloc ?_ _)); refine blk_put (cs := #[.int .i64 t782, .int .i64 t783, .int .i64 0]) ?_ 2 _ rfl; (with_reducible repeat (first | refine blk_drewN ?_ _ | refine blk_drew ?_ | refine blk_alloc ?_ _)); refine blk_put (cs := #[.int .i64 t782, .int .i64 0, .int .i64 0]) ?_ 1 _ rfl; (with_reducible repeat (first | refine blk_drewN ?_ _ | refine blk_drew ?_ | refine blk_alloc ?_ _)); refine blk_put (cs := #[.int .i64 0, .int .i64 0, .int .i64 0]) ?_ 0 _ rfl; (with_reducible repeat (first | refine blk_drewN ?_ _ | refine blk_drew ?_ | refine blk_alloc ?_ _)); exact BK785.out⟩, ⟨by repeat (first | (with_reducible first | exact HB.out | apply below_alloc | apply pw_below_drewN | apply below_drew1 | refine below_set ?_ GE749.out | refine below_set ?_ GE750.out | refine below_set ?_ GE758.out | refine below_set ?_ GE781.out | refine below_set ?_ GE785.out) | exact HB.out)⟩⟩
      case rest =>
       clear HC119
       try clear c1
       try clear c2
       try clear p2
       try clear c3
       try clear c4
       try clear c6
       try clear c7
       try clear c8
       try clear c9
       try clear c10
       try clear c11
       try clear c12
       try clear c13
       try clear c14
       try clear c15
       try clear c17
       try clear c21
       try clear c23
       try clear c28
       try clear c31
       try clear c32
       try clear c33
       try clear c34
       try clear c37
       try clear c37b0
       try clear c38
       try clear c39
       try clear c46
       try clear c46b0
       try clear c47
       try clear c48
       try clear c60
       try clear c60b0
       try clear c61
       try clear c62
       try clear c79
       try clear c80
       try clear c97
       try clear c97b0
       try clear c98
       try clear c99
       try clear c106
       try clear c108
       try clear c109
       try clear c115
       try clear c120
       try clear c121
       try clear c123
       try clear c127
       try clear c128
       try clear c129
       try clear c135
       try clear c136
       try clear c137
       try clear c138
       try clear c140
       try clear c140b0
       try clear c140b1
       try clear c141
       try clear c142
       try clear c143
       try clear c144
       try clear hcz100_0
       try clear hcz100_1
       try clear hcz100_2
       try clear hcz100_3
       try clear hcz105_0
       try clear hcz105_1
       try clear hcz105_2
       try clear hcz105_3
       try clear hcz107_0
       try clear hcz107_1
       try clear hcz107_2
       try clear hcz110_0
       try clear hcz110_1
       try clear hcz110_2
       try clear hcz110_3
       try clear hcz122_0
       try clear hcz122_1
       try clear hcz122_2
       try clear hcz124_0
       try clear hcz124_1
       try clear hcz124_2
       try clear hcz124_3
       try clear hcz12_0
       try clear hcz12_1
       try clear hcz12_2
       try clear hcz12_3
       try clear hcz130_0
       try clear hcz130_1
       try clear hcz130_2
       try clear hcz130_3
       try clear hcz132_0
       try clear hcz132_1
       try clear hcz132_2
       try clear hcz139_0
       try clear hcz139_1
       try clear hcz139_2
       try clear hcz13_0
       try clear hcz13_1
       try clear hcz13_2
       try clear hcz145_0
       try clear hcz145_1
       try clear hcz145_2
       try clear hcz15_0
       try clear hcz15_1
       try clear hcz15_2
       try clear hcz15_3
       try clear hcz18_0
       try clear hcz18_1
       try clear hcz18_2
       try clear hcz18_3
       try clear hcz19_0
       try clear hcz19_1
       try clear hcz19_2
       try clear hcz22_0
       try clear hcz22_1
       try clear hcz22_2
       try clear hcz22_3
       try clear hcz29_0
       try clear hcz29_1
       try clear hcz29_2
       try clear hcz30_0
       try clear hcz30_1
       try clear hcz30_2
       try clear hcz30_3
       try clear hcz35_0
       try clear hcz35_1
       try clear hcz35_2
       try clear hcz40_0
       try clear hcz40_1
       try clear hcz40_2
       try clear hcz40_3
       try clear hcz49_0
       try clear hcz49_1
       try clear hcz49_2
       try clear hcz49_3
       try clear hcz54_0
       try clear hcz54_1
       try clear hcz54_2
       try clear hcz54_3
       try clear hcz63_0
       try clear hcz63_1
       try clear hcz63_2
       try clear hcz63_3
       try clear hcz68_0
       try clear hcz68_1
       try clear hcz68_2
       try clear hcz68_3
       try clear hcz73_0
       try clear hcz73_1
       try clear hcz73_2
       try clear hcz73_3
       try clear hcz81_0
       try clear hcz81_1
       try clear hcz81_2
       try clear hcz81_3
       try clear hcz86_0
       try clear hcz86_1
       try clear hcz86_2
       try clear hcz86_3
       try clear hcz91_0
       try clear hcz91_1
       try clear hcz91_2
       try clear hcz91_3
       try clear hfz100_0
       try clear hfz100_1
       try clear hfz100_2
       try clear hfz100_3
       try clear hfz105_0
       try clear hfz105_1
       try clear hfz105_2
       try clear hfz105_3
       try clear hfz107_0
       try clear hfz107_1
       try clear hfz107_2
       try clear hfz110_0
       try clear hfz110_1
       try clear hfz110_2
       try clear hfz110_3
       try clear hfz122_0
       try clear hfz122_1
       try clear hfz122_2
       try clear hfz124_0
       try clear hfz124_1
       try clear hfz124_2
       try clear hfz124_3
       try clear hfz12_0
       try clear hfz12_1
       try clear hfz12_2
       try clear hfz12_3
       try clear hfz130_0
       try clear hfz130_1
       try clear hfz130_2
       try clear hfz130_3
       try clear hfz132_0
       try clear hfz132_1
       try clear hfz132_2
       try clear hfz139_0
       try clear hfz139_1
       try clear hfz139_2
       try clear hfz13_0
       try clear hfz13_1
       try clear hfz13_2
       try clear hfz145_0
       try clear hfz145_1
       try clear hfz145_2
       try clear hfz15_0
       try clear hfz15_1
       try clear hfz15_2
       try clear hfz15_3
       try clear hfz18_0
       try clear hfz18_1
       try clear hfz18_2
       try clear hfz18_3
       try clear hfz19_0
       try clear hfz19_1
       try clear hfz19_2
       try clear hfz22_0
       try clear hfz22_1
       try clear hfz22_2
       try clear hfz22_3
       try clear hfz29_0
       try clear hfz29_1
       try clear hfz29_2
       try clear hfz30_0
       try clear hfz30_1
       try clear hfz30_2
       try clear hfz30_3
       try clear hfz35_0
       try clear hfz35_1
       try clear hfz35_2
       try clear hfz40_0
       try clear hfz40_1
       try clear hfz40_2
       try clear hfz40_3
       try clear hfz49_0
       try clear hfz49_1
       try clear hfz49_2
       try clear hfz49_3
       try clear hfz54_0
       try clear hfz54_1
       try clear hfz54_2
       try clear hfz54_3
       try clear hfz63_0
       try clear hfz63_1
       try clear hfz63_2
       try clear hfz63_3
       try clear hfz68_0
       try clear hfz68_1
       try clear hfz68_2
       try clear hfz68_3
       try clear hfz73_0
       try clear hfz73_1
       try clear hfz73_2
       try clear hfz73_3
       try clear hfz81_0
       try clear hfz81_1
       try clear hfz81_2
       try clear hfz81_3
       try clear hfz86_0
       try clear hfz86_1
       try clear hfz86_2
       try clear hfz86_3
       try clear hfz91_0
       try clear hfz91_1
       try clear hfz91_2
       try clear hfz91_3
       try clear p2
       obtain ⟨kq, x74_118, rfl, HA, HJ118, HO_782003, BK749, BK750, BK758, BK781, BK785, HB⟩ := hcut
       cases kq with
       | zero => exact absurd HA.out (by simp [salvorlaw18_PlanOrder.j3])
       | succ kj118 =>
        have H := HA.out
        clear HA
        simp only [salvorlaw18_PlanOrder.j3] at H
        have HC146 := Aside0.mk H
        clear H
        go_upto_if 74 with (fail)
        go_cut [6] (fun v6 wc => ∃ (kq : Nat) (x6_145 : Int), v6 = .int .i64 x6_145 ∧ Aside0 (salvorlaw18_PlanOrder.j4 kq x6_145 t786 a0_0 a0_1 a0_2 a1_0 a1_1 a1_2 l1_3 t755 t756 t757 t775 t776 t777 t778 t782 t783 t784 = some r) ∧ Aside0 (kq ≤ kj118) ∧ Aside0 (Kd.R k33 33 wc w.heap.size (fun _ => True) (.slice Ao131 t778.length co131) t778) ∧ Aside0 (wc.heap[gb749]? = some (.cells #[.int .i64 a0_0, .int .i64 a0_1, .bool a0_2] 23 (0, 0))) ∧ Aside0 (wc.heap[gb750]? = some (.cells #[.int .i64 a1_0, .int .i64 a1_1, .int .u8 a1_2, (.slice A1_3 l1_3.length c1_3)] 26 (0, 0))) ∧ Aside0 (wc.heap[gb758]? = some (.cells #[.int .i64 t755, .int .i64 t756, .int .i64 t757] 29 (0, 0))) ∧ Aside0 (wc.heap[gb781]? = some (.cells #[.int .i64 t775, .int .i64 t776, .int .u8 t777, (.slice Ao131 t778.length co131)] 26 (0, 0))) ∧ Aside0 (wc.heap[gb785]? = some (.cells #[.int .i64 t782, .int .i64 t783, .int .i64 t784] 29 (0, 0))) ∧ Aside0 (Below w.heap.size w wc))
        case first =>
         have H := HC146.out
         clear HC146
         by_cases c147 : x74_118 = true
         ·subst c147
          have H1 : (if (wrap64 (a1_1 + 1)) < a0_1 then (some false) else (salvorlaw18_PlanOrder.j4 kj118 0 t786 a0_0 a0_1 a0_2 a1_0 a1_1 a1_2 l1_3 t755 t756 t757 t775 t776 t777 t778 t782 t783 t784)) = some r := by rw [if_pos rfl] at H; exact H
          clear H
          have H := H1
          clear H1
          by_cases c148 : (wrap64 (a1_1 + 1)) < a0_1
          ·rw [if_pos c148] at H
           have c148b0 : decide ((wrap64 (a1_1 + 1)) < a0_1) = true := decide_eq_true c148
           clear c148
           (first | rw [c148b0] | (simp only [i64_w, i32_w]; rw [c148b0]) | skip)
           exact absurd ((Option.some.inj H).trans HT.out) (by simp)
          ·rw [if_neg c148] at H
           have c148b0 : decide ((wrap64 (a1_1 + 1)) < a0_1) = false := decide_eq_false c148
           clear c148
           (first | rw [c148b0] | (simp only [i64_w, i32_w]; rw [c148b0]) | skip)
           have H' := Aside0.mk H
           clear H
           have hnb149 := NB750_749.out
           have hnc149 := NB749_750.out
           have hnb150 := NB750_758.out
           have hnc150 := NB758_750.out
           have hnb151 := NB750_781.out
           have hnc151 := NB781_750.out
           have hnb152 := NB750_785.out
           have hnc152 := NB785_750.out
           have hcz153_0 : wc.cell? ⟨gb750, 0, none⟩ = some (.int .i64 a1_0) := (blk_cell BK750.out 0).trans rfl
           have hcz153_1 : wc.cell? ⟨gb750, 1, none⟩ = some (.int .i64 a1_1) := (blk_cell BK750.out 1).trans rfl
           have hcz153_2 : wc.cell? ⟨gb750, 2, none⟩ = some (.int .u8 a1_2) := (blk_cell BK750.out 2).trans rfl
           have hcz153_3 : wc.cell? ⟨gb750, 3, none⟩ = some (.slice A1_3 l1_3.length c1_3) := (blk_cell BK750.out 3).trans rfl
           have hfz153_0 := blk_frozen BK750.out 0
           have hfz153_1 := blk_frozen BK750.out 1
           have hfz153_2 := blk_frozen BK750.out 2
           have hfz153_3 := blk_frozen BK750.out 3
           have hnb154 := NB749_758.out
           have hnc154 := NB758_749.out
           have hnb155 := NB749_781.out
           have hnc155 := NB781_749.out
           have hnb156 := NB749_785.out
           have hnc156 := NB785_749.out
           have hcz157_0 : wc.cell? ⟨gb749, 0, none⟩ = some (.int .i64 a0_0) := (blk_cell BK749.out 0).trans rfl
           have hcz157_1 : wc.cell? ⟨gb749, 1, none⟩ = some (.int .i64 a0_1) := (blk_cell BK749.out 1).trans rfl
           have hcz157_2 : wc.cell? ⟨gb749, 2, none⟩ = some (.bool a0_2) := (blk_cell BK749.out 2).trans rfl
           have hfz157_0 := blk_frozen BK749.out 0
           have hfz157_1 := blk_frozen BK749.out 1
           have hfz157_2 := blk_frozen BK749.out 2
           go_wp2
           go_meet
           case rel => exact ⟨_, (0), (by first | rfl | (simp; done) | (simp [*]; done)), H', ⟨by have := HJ2.out; have := HJ26.out; have := HJ118.out; first | omega | exact Nat.le_refl _⟩, ⟨by (with_reducible repeat (first | apply Kd.R_alloc | apply Kd.R_drewN | apply Kd.R_drew)); exact HO_782003.out⟩, ⟨by (with_reducible repeat (first | refine blk_drewN ?_ _ | refine blk_drew ?_ | refine blk_alloc ?_ _)); exact BK749.out⟩, ⟨by (with_reducible repeat (first | refine blk_drewN ?_ _ | refine blk_drew ?_ | refine blk_alloc ?_ _)); exact BK750.out⟩, ⟨by (with_reducible repeat (first | refine blk_drewN ?_ _ | refine blk_drew ?_ | refine blk_alloc ?_ _)); exact BK758.out⟩, ⟨by (with_reducible repeat (first | refine blk_drewN ?_ _ | refine blk_drew ?_ | refine blk_alloc ?_ _)); exact BK781.out⟩, ⟨by (with_reducible repeat (first | refine blk_drewN ?_ _ | refine blk_drew ?_ | refine blk_alloc ?_ _)); exact BK785.out⟩, ⟨by repeat (first | (with_reducible first | exact HB.out | apply below_alloc | apply pw_below_drewN | apply below_drew1 | refine below_set ?_ GE749.out | refine below_set ?_ GE750.out | refine below_set ?_ GE758.out | refine below_set ?_ GE781.out | refine below_set ?_ GE785.out) | exact HB.out)⟩⟩
         ·replace c147 := Bool.eq_false_iff.mpr c147
          subst c147
          have H1 : (salvorlaw18_PlanOrder.j4 kj118 x6_26 t786 a0_0 a0_1 a0_2 a1_0 a1_1 a1_2 l1_3 t755 t756 t757 t775 t776 t777 t778 t782 t783 t784) = some r := by rw [if_neg (show ¬ (false = true) by decide)] at H; exact H
          clear H
          have H := H1
          clear H1
          have H' := Aside0.mk H
          clear H
          go_wp2
          go_meet
          case rel => exact ⟨_, (x6_26), (by first | rfl | (simp; done) | (simp [*]; done)), H', ⟨by have := HJ2.out; have := HJ26.out; have := HJ118.out; first | omega | exact Nat.le_refl _⟩, ⟨by (with_reducible repeat (first | apply Kd.R_alloc | apply Kd.R_drewN | apply Kd.R_drew)); exact HO_782003.out⟩, ⟨by (with_reducible repeat (first | refine blk_drewN ?_ _ | refine blk_drew ?_ | refine blk_alloc ?_ _)); exact BK749.out⟩, ⟨by (with_reducible repeat (first | refine blk_drewN ?_ _ | refine blk_drew ?_ | refine blk_alloc ?_ _)); exact BK750.out⟩, ⟨by (with_reducible repeat (first | refine blk_drewN ?_ _ | refine blk_drew ?_ | refine blk_alloc ?_ _)); exact BK758.out⟩, ⟨by (with_reducible repeat (first | refine blk_drewN ?_ _ | refine blk_drew ?_ | refine blk_alloc ?_ _)); exact BK781.out⟩, ⟨by (with_reducible repeat (first | refine blk_drewN ?_ _ | refine blk_drew ?_ | refine blk_alloc ?_ _)); exact BK785.out⟩, ⟨by repeat (first | (with_reducible first | exact HB.out | apply below_alloc | apply pw_below_drewN | apply below_drew1 | refine below_set ?_ GE749.out | refine below_set ?_ GE750.out | refine below_set ?_ GE758.out | refine below_set ?_ GE781.out | refine below_set ?_ GE785.out) | exact HB.out)⟩⟩
        case rest =>
         clear HC146
         try clear c1
         try clear c2
         try clear p2
         try clear c3
         try clear c4
         try clear c6
         try clear p6
         try clear c7
         try clear c8
         try clear c9
         try clear c10
         try clear c11
         try clear c12
         try clear c13
         try clear c14
         try clear c15
         try clear c17
         try clear c21
         try clear c23
         try clear c28
         try clear c31
         try clear c32
         try clear c33
         try clear c34
         try clear c37
         try clear c37b0
         try clear c38
         try clear c39
         try clear c46
         try clear c46b0
         try clear c47
         try clear c48
         try clear c60
         try clear c60b0
         try clear c61
         try clear c62
         try clear p64
         try clear c79
         try clear c80
         try clear c97
         try clear c97b0
         try clear c98
         try clear c99
         try clear c106
         try clear c108
         try clear c109
         try clear c115
         try clear c120
         try clear c121
         try clear c123
         try clear c127
         try clear c128
         try clear c129
         try clear c135
         try clear c136
         try clear c137
         try clear c138
         try clear c140
         try clear c140b0
         try clear c140b1
         try clear c141
         try clear c142
         try clear c143
         try clear c144
         try clear c147
         try clear c148
         try clear c148b0
         try clear c149
         try clear c150
         try clear c151
         try clear c152
         try clear c154
         try clear c155
         try clear c156
         try clear hcz100_0
         try clear hcz100_1
         try clear hcz100_2
         try clear hcz100_3
         try clear hcz105_0
         try clear hcz105_1
         try clear hcz105_2
         try clear hcz105_3
         try clear hcz107_0
         try clear hcz107_1
         try clear hcz107_2
         try clear hcz110_0
         try clear hcz110_1
         try clear hcz110_2
         try clear hcz110_3
         try clear hcz122_0
         try clear hcz122_1
         try clear hcz122_2
         try clear hcz124_0
         try clear hcz124_1
         try clear hcz124_2
         try clear hcz124_3
         try clear hcz12_0
         try clear hcz12_1
         try clear hcz12_2
         try clear hcz12_3
         try clear hcz130_0
         try clear hcz130_1
         try clear hcz130_2
         try clear hcz130_3
         try clear hcz132_0
         try clear hcz132_1
         try clear hcz132_2
         try clear hcz139_0
         try clear hcz139_1
         try clear hcz139_2
         try clear hcz13_0
         try clear hcz13_1
         try clear hcz13_2
         try clear hcz145_0
         try clear hcz145_1
         try clear hcz145_2
         try clear hcz153_0
         try clear hcz153_1
         try clear hcz153_2
         try clear hcz153_3
         try clear hcz157_0
         try clear hcz157_1
         try clear hcz157_2
         try clear hcz15_0
         try clear hcz15_1
         try clear hcz15_2
         try clear hcz15_3
         try clear hcz18_0
         try clear hcz18_1
         try clear hcz18_2
         try clear hcz18_3
         try clear hcz19_0
         try clear hcz19_1
         try clear hcz19_2
         try clear hcz22_0
         try clear hcz22_1
         try clear hcz22_2
         try clear hcz22_3
         try clear hcz29_0
         try clear hcz29_1
         try clear hcz29_2
         try clear hcz30_0
         try clear hcz30_1
         try clear hcz30_2
         try clear hcz30_3
         try clear hcz35_0
         try clear hcz35_1
         try clear hcz35_2
         try clear hcz40_0
         try clear hcz40_1
         try clear hcz40_2
         try clear hcz40_3
         try clear hcz49_0
         try clear hcz49_1
         try clear hcz49_2
         try clear hcz49_3
         try clear hcz54_0
         try clear hcz54_1
         try clear hcz54_2
         try clear hcz54_3
         try clear hcz63_0
         try clear hcz63_1
         try clear hcz63_2
         try clear hcz63_3
         try clear hcz68_0
         try clear hcz68_1
         try clear hcz68_2
         try clear hcz68_3
         try clear hcz73_0
         try clear hcz73_1
         try clear hcz73_2
         try clear hcz73_3
         try clear hcz81_0
         try clear hcz81_1
         try clear hcz81_2
         try clear hcz81_3
         try clear hcz86_0
         try clear hcz86_1
         try clear hcz86_2
         try clear hcz86_3
         try clear hcz91_0
         try clear hcz91_1
         try clear hcz91_2
         try clear hcz91_3
         try clear hfz100_0
         try clear hfz100_1
         try clear hfz100_2
         try clear hfz100_3
         try clear hfz105_0
         try clear hfz105_1
         try clear hfz105_2
         try clear hfz105_3
         try clear hfz107_0
         try clear hfz107_1
         try clear hfz107_2
         try clear hfz110_0
         try clear hfz110_1
         try clear hfz110_2
         try clear hfz110_3
         try clear hfz122_0
         try clear hfz122_1
         try clear hfz122_2
         try clear hfz124_0
         try clear hfz124_1
         try clear hfz124_2
         try clear hfz124_3
         try clear hfz12_0
         try clear hfz12_1
         try clear hfz12_2
         try clear hfz12_3
         try clear hfz130_0
         try clear hfz130_1
         try clear hfz130_2
         try clear hfz130_3
         try clear hfz132_0
         try clear hfz132_1
         try clear hfz132_2
         try clear hfz139_0
         try clear hfz139_1
         try clear hfz139_2
         try clear hfz13_0
         try clear hfz13_1
         try clear hfz13_2
         try clear hfz145_0
         try clear hfz145_1
         try clear hfz145_2
         try clear hfz153_0
         try clear hfz153_1
         try clear hfz153_2
         try clear hfz153_3
         try clear hfz157_0
         try clear hfz157_1
         try clear hfz157_2
         try clear hfz15_0
         try clear hfz15_1
         try clear hfz15_2
         try clear hfz15_3
         try clear hfz18_0
         try clear hfz18_1
         try clear hfz18_2
         try clear hfz18_3
         try clear hfz19_0
         try clear hfz19_1
         try clear hfz19_2
         try clear hfz22_0
         try clear hfz22_1
         try clear hfz22_2
         try clear hfz22_3
         try clear hfz29_0
         try clear hfz29_1
         try clear hfz29_2
         try clear hfz30_0
         try clear hfz30_1
         try clear hfz30_2
         try clear hfz30_3
         try clear hfz35_0
         try clear hfz35_1
         try clear hfz35_2
         try clear hfz40_0
         try clear hfz40_1
         try clear hfz40_2
         try clear hfz40_3
         try clear hfz49_0
         try clear hfz49_1
         try clear hfz49_2
         try clear hfz49_3
         try clear hfz54_0
         try clear hfz54_1
         try clear hfz54_2
         try clear hfz54_3
         try clear hfz63_0
         try clear hfz63_1
         try clear hfz63_2
         try clear hfz63_3
         try clear hfz68_0
         try clear hfz68_1
         try clear hfz68_2
         try clear hfz68_3
         try clear hfz73_0
         try clear hfz73_1
         try clear hfz73_2
         try clear hfz73_3
         try clear hfz81_0
         try clear hfz81_1
         try clear hfz81_2
         try clear hfz81_3
         try clear hfz86_0
         try clear hfz86_1
         try clear hfz86_2
         try clear hfz86_3
         try clear hfz91_0
         try clear hfz91_1
         try clear hfz91_2
         try clear hfz91_3
         try clear p2
         obtain ⟨kq, x6_145, rfl, HA, HJ145, HO_782003, BK749, BK750, BK758, BK781, BK785, HB⟩ := hcut
         cases kq with
         | zero => exact absurd HA.out (by simp [salvorlaw18_PlanOrder.j4])
         | succ kj145 =>
          have H := HA.out
          clear HA
          simp only [salvorlaw18_PlanOrder.j4] at H
          by_cases c158 : t755 = x6_145
          ·rw [if_pos c158] at H
           have c158b0 : (t755 == x6_145) = true := beq_iff_eq.mpr c158
           have c158b1 : (t755 != x6_145) = false := bne_eq_false_iff_eq.mpr c158
           clear c158
           by_cases c159 : t777 = t786
           ·rw [if_pos c159] at H
            have c159b0 : (t777 == t786) = true := beq_iff_eq.mpr c159
            have c159b1 : (t777 != t786) = false := bne_eq_false_iff_eq.mpr c159
            clear c159
            by_cases c160 : t776 = 0
            ·rw [if_pos c160] at H
             have c160b0 : (t776 == 0) = true := beq_iff_eq.mpr c160
             have c160b1 : (t776 != 0) = false := bne_eq_false_iff_eq.mpr c160
             clear c160
             obtain ⟨y787, hy787⟩ : ∃ y_ : List Int, y_ = (([43] : List Int)) := ⟨_, rfl⟩
             replace H : ((region_Count.f kj145 l1_3 y787).bind fun t790 => ((region_End.f kj145 l1_3).bind fun t791 => (if t790 = t791 then (if ((t782 == 0) == true) = true then ((salvorlaw18_PlanRuns.f kj145).bind fun t792 => (some t792)) else (some false)) else (if a0_1 = 0 then ((region_Count.f kj145 l1_3 (([43, 45] : List Int))).bind fun t796 => ((region_End.f kj145 l1_3).bind fun t797 => (if ((t782 == 0) == (t796 == t797)) = true then ((salvorlaw18_PlanRuns.f kj145).bind fun t798 => (some t798)) else (some false)))) else (if ((t782 == 0) == false) = true then ((salvorlaw18_PlanRuns.f kj145).bind fun t799 => (some t799)) else (some false)))))) = some r := by first | (rw [hy787]; with_reducible exact H) | (have H2_ := (Option.bind_some _ _).symm.trans H; rw [hy787]; with_reducible exact H2_) | (have H2_ := (Option.bind_some _ _).symm.trans H; with_reducible exact H2_) | with_reducible exact H | (rw [hy787]; exact H) | exact H
             have Ny787 := Aside0.mk hy787
             clear hy787
             replace H := Option.bind_eq_some_iff.mp H
             obtain ⟨t790, A1610, H⟩ := H
             replace H : ((region_End.f kj145 l1_3).bind fun t791 => (if t790 = t791 then (if ((t782 == 0) == true) = true then ((salvorlaw18_PlanRuns.f kj145).bind fun t792 => (some t792)) else (some false)) else (if a0_1 = 0 then ((region_Count.f kj145 l1_3 (([43, 45] : List Int))).bind fun t796 => ((region_End.f kj145 l1_3).bind fun t797 => (if ((t782 == 0) == (t796 == t797)) = true then ((salvorlaw18_PlanRuns.f kj145).bind fun t798 => (some t798)) else (some false)))) else (if ((t782 == 0) == false) = true then ((salvorlaw18_PlanRuns.f kj145).bind fun t799 => (some t799)) else (some false))))) = some r := H
             have A161 := Aside0.mk A1610
             clear A1610
             replace H := Option.bind_eq_some_iff.mp H
             obtain ⟨t791, A1620, H⟩ := H
             replace H : (if t790 = t791 then (if ((t782 == 0) == true) = true then ((salvorlaw18_PlanRuns.f kj145).bind fun t792 => (some t792)) else (some false)) else (if a0_1 = 0 then ((region_Count.f kj145 l1_3 (([43, 45] : List Int))).bind fun t796 => ((region_End.f kj145 l1_3).bind fun t797 => (if ((t782 == 0) == (t796 == t797)) = true then ((salvorlaw18_PlanRuns.f kj145).bind fun t798 => (some t798)) else (some false)))) else (if ((t782 == 0) == false) = true then ((salvorlaw18_PlanRuns.f kj145).bind fun t799 => (some t799)) else (some false)))) = some r := H
             have A162 := Aside0.mk A1620
             clear A1620
             by_cases c163 : t790 = t791
             ·rw [if_pos c163] at H
              have c163b0 : (t790 == t791) = true := beq_iff_eq.mpr c163
              have c163b1 : (t790 != t791) = false := bne_eq_false_iff_eq.mpr c163
              clear c163
              by_cases c164 : ((t782 == 0) == true) = true
              ·rw [if_pos c164] at H
               have c164b0 : ((t782 == 0) == true) = true := c164
               (try (have c164b1 : decide ((t782 == 0) = true) = true := by simpa using c164))
               (try (have c164b2 : ((t782 == 0) == true) = true := by simpa using c164))
               clear c164
               replace H := Option.bind_eq_some_iff.mp H
               obtain ⟨t792, A1650, H⟩ := H
               replace H : (some t792) = some r := H
               have A165 := Aside0.mk A1650
               clear A1650
               obtain rfl := Option.some.inj H
               try go_wp2
               replace HO_782003 := Aside0.mk (Kd.R_drew HO_782003.out)
               replace BK749 := Aside0.mk (blk_drew BK749.out)
               replace BK750 := Aside0.mk (blk_drew BK750.out)
               replace BK758 := Aside0.mk (blk_drew BK758.out)
               replace BK781 := Aside0.mk (blk_drew BK781.out)
               replace BK785 := Aside0.mk (blk_drew BK785.out)
               replace HB := Aside0.mk (below_drew1 HB.out)
               refine start_ (n := 48) (S := fun w' => w'.cell? ⟨gb758, 0, none⟩ = some (.int .i64 t755) ∧ w'.cell? ⟨gb758, 1, none⟩ = some (.int .i64 t756) ∧ w'.cell? ⟨gb758, 2, none⟩ = some (.int .i64 t757) ∧ w'.cell? ⟨gb781, 0, none⟩ = some (.int .i64 t775) ∧ w'.cell? ⟨gb781, 1, none⟩ = some (.int .i64 t776) ∧ w'.cell? ⟨gb781, 2, none⟩ = some (.int .u8 t777) ∧ w'.cell? ⟨gb781, 3, none⟩ = some (.slice Ao131 t778.length co131) ∧ w'.cell? ⟨gb785, 0, none⟩ = some (.int .i64 t782) ∧ w'.cell? ⟨gb785, 1, none⟩ = some (.int .i64 t783) ∧ w'.cell? ⟨gb785, 2, none⟩ = some (.int .i64 t784) ∧ w'.cell? ⟨gb750, 0, none⟩ = some (.int .i64 a1_0) ∧ w'.cell? ⟨gb750, 1, none⟩ = some (.int .i64 a1_1) ∧ w'.cell? ⟨gb750, 2, none⟩ = some (.int .u8 a1_2) ∧ w'.cell? ⟨gb750, 3, none⟩ = some (.slice A1_3 l1_3.length c1_3)) (ds := []) #[false, false, false, false, false, false, false, false, false, false, false, false, false, false, false, false, false, false, false, false, false, false, false, false, false, false, false, false, false, false, false, false, false, false, false, false, false, false, false, false, false, false, false, false, false, false, false, false] (by kernel_rfl) rfl rfl ⟨(blk_cell BK758.out 0).trans rfl, (blk_cell BK758.out 1).trans rfl, (blk_cell BK758.out 2).trans rfl, (blk_cell BK781.out 0).trans rfl, (blk_cell BK781.out 1).trans rfl, (blk_cell BK781.out 2).trans rfl, (blk_cell BK781.out 3).trans rfl, (blk_cell BK785.out 0).trans rfl, (blk_cell BK785.out 1).trans rfl, (blk_cell BK785.out 2).trans rfl, (blk_cell BK750.out 0).trans rfl, (blk_cell BK750.out 1).trans rfl, (blk_cell BK750.out 2).trans rfl, (blk_cell BK750.out 3).trans rfl⟩ (fun hHeld => ?_); refine with_tabW salvorlaw18_PlanOrder.tab20 salvorlaw18_PlanOrder.bits20 (fun HT_ HW_ => ?_)
               generalize wc.drew = w166 at HO_782003 BK749 BK750 BK758 BK781 BK785 HB hHeld ⊢
               refine pu_ 0 81 (lb_ 48 1) rfl rfl (any_of HT_.out (by kernel_rfl)) ?_
               refine pu_ 2 83 (lb_ 48 5) rfl rfl (any_of HT_.out (by kernel_rfl)) ?_
               refine take_ (i := 1) (N := some 82) (v := ?_) (a' := ?_) #[true, true, true, false, false, false, false, false, false, false, false, false, false, false, false, false, false, false, false, false, false, false, false, false, false, false, false, false, false, false, false, false, false, false, false, false, false, false, false, false, false, false, false, false, false, false, false, false] rfl rfl (take_ofW HT_.out HW_.out (by kernel_rfl)) (fun _ _ _ h => h) (Or.inl ⟨by rfl, ?_⟩) hHeld ?_ ?_
               rotate_left
               ·rintro w' ⟨s0, s1, s2, s3, s4, s5, s6, s7, s8, s9, s10, s11, s12, s13⟩
                go_simp
                with_reducible rfl
               rotate_left
               ·simp only [Act.put, List.setIfInBounds_toArray, List.set_cons_zero, List.set_cons_succ, i64_w, i32_w]
                rfl
               refine pu_ 3 84 (lb_ 48 15) rfl rfl (any_of HT_.out (by kernel_rfl)) ?_
               refine pu_ 4 85 (lb_ 48 31) rfl rfl (any_of HT_.out (by kernel_rfl)) ?_
               refine pu_ 5 86 (lb_ 48 63) rfl rfl (any_of HT_.out (by kernel_rfl)) ?_
               refine pu_ 7 88 (lb_ 48 191) rfl rfl (any_of HT_.out (by kernel_rfl)) ?_
               refine take_ (i := 6) (N := some 87) (v := ?_) (a' := ?_) #[true, true, true, true, true, true, true, true, false, false, false, false, false, false, false, false, false, false, false, false, false, false, false, false, false, false, false, false, false, false, false, false, false, false, false, false, false, false, false, false, false, false, false, false, false, false, false, false] rfl rfl (take_ofW HT_.out HW_.out (by kernel_rfl)) (fun _ _ _ h => h) (Or.inl ⟨by rfl, ?_⟩) hHeld ?_ ?_
               rotate_left
               ·rintro w' ⟨s0, s1, s2, s3, s4, s5, s6, s7, s8, s9, s10, s11, s12, s13⟩
                go_simp
                with_reducible rfl
               rotate_left
               ·simp only [Act.put, List.setIfInBounds_toArray, List.set_cons_zero, List.set_cons_succ, i64_w, i32_w]
                rfl
               refine pu_ 8 89 (lb_ 48 511) rfl rfl (any_of HT_.out (by kernel_rfl)) ?_
               refine pu_ 9 90 (lb_ 48 1023) rfl rfl (any_of HT_.out (by kernel_rfl)) ?_
               refine pu_ 10 91 (lb_ 48 2047) rfl rfl (any_of HT_.out (by kernel_rfl)) ?_
               refine pu_ 11 92 (lb_ 48 4095) rfl rfl (any_of HT_.out (by kernel_rfl)) ?_
               refine take_ (i := 12) (N := some 93) (v := ?_) (a' := ?_) #[true, true, true, true, true, true, true, true, true, true, true, true, true, false, false, false, false, false, false, false, false, false, false, false, false, false, false, false, false, false, false, false, false, false, false, false, false, false, false, false, false, false, false, false, false, false, false, false] rfl rfl (take_ofW HT_.out HW_.out (by kernel_rfl)) (fun _ _ _ h => h) (Or.inl ⟨by rfl, ?_⟩) hHeld ?_ ?_
               rotate_left
               ·rintro w' ⟨s0, s1, s2, s3, s4, s5, s6, s7, s8, s9, s10, s11, s12, s13⟩
                go_simp
                with_reducible rfl
               rotate_left
               ·simp only [Act.put, List.setIfInBounds_toArray, List.set_cons_zero, List.set_cons_succ, i64_w, i32_w]
                rfl
               refine pu_ 13 94 (lb_ 48 16383) rfl rfl (any_of HT_.out (by kernel_rfl)) ?_
               refine pu_ 14 95 (lb_ 48 32767) rfl rfl (any_of HT_.out (by kernel_rfl)) ?_
               refine pu_ 15 96 (lb_ 48 65535) rfl rfl (any_of HT_.out (by kernel_rfl)) ?_
               refine pu_ 16 97 (lb_ 48 131071) rfl rfl (any_of HT_.out (by kernel_rfl)) ?_
               refine pu_ 19 100 (lb_ 48 655359) rfl rfl (any_of HT_.out (by kernel_rfl)) ?_
               refine pu_ 23 104 (lb_ 48 9043967) rfl rfl (any_of HT_.out (by kernel_rfl)) ?_
               refine take_ (i := 17) (N := some 98) (v := ?_) (a' := ?_) #[true, true, true, true, true, true, true, true, true, true, true, true, true, true, true, true, true, true, false, true, false, false, false, true, false, false, false, false, false, false, false, false, false, false, false, false, false, false, false, false, false, false, false, false, false, false, false, false] rfl rfl (take_ofW HT_.out HW_.out (by kernel_rfl)) (fun _ _ _ h => h) (Or.inl ⟨by rfl, ?_⟩) hHeld ?_ ?_
               rotate_left
               ·rintro w' ⟨s0, s1, s2, s3, s4, s5, s6, s7, s8, s9, s10, s11, s12, s13⟩
                go_simp
                with_reducible rfl
               rotate_left
               ·simp only [Act.put, List.setIfInBounds_toArray, List.set_cons_zero, List.set_cons_succ, i64_w, i32_w]
                rfl
               refine pu_ 18 99 (lb_ 48 9437183) rfl rfl (any_of HT_.out (by kernel_rfl)) ?_
               refine take_ (i := 20) (N := some 101) (v := ?_) (a' := ?_) #[true, true, true, true, true, true, true, true, true, true, true, true, true, true, true, true, true, true, true, true, true, false, false, true, false, false, false, false, false, false, false, false, false, false, false, false, false, false, false, false, false, false, false, false, false, false, false, false] rfl rfl (take_ofW HT_.out HW_.out (by kernel_rfl)) (fun _ _ _ h => h) (Or.inl ⟨by rfl, ?_⟩) hHeld ?_ ?_
               rotate_left
               ·rintro w' ⟨s0, s1, s2, s3, s4, s5, s6, s7, s8, s9, s10, s11, s12, s13⟩
                go_simp
                with_reducible rfl
               rotate_left
               ·simp only [Act.put, List.setIfInBounds_toArray, List.set_cons_zero, List.set_cons_succ, i64_w, i32_w]
                rfl
               refine take_ (i := 24) (N := some 105) (v := ?_) (a' := ?_) #[true, true, true, true, true, true, true, true, true, true, true, true, true, true, true, true, true, true, true, true, true, false, false, true, true, false, false, false, false, false, false, false, false, false, false, false, false, false, false, false, false, false, false, false, false, false, false, false] rfl rfl (take_ofW HT_.out HW_.out (by kernel_rfl)) (fun _ _ _ h => h) (Or.inl ⟨by rfl, ?_⟩) hHeld ?_ ?_
               rotate_left
               ·rintro w' ⟨s0, s1, s2, s3, s4, s5, s6, s7, s8, s9, s10, s11, s12, s13⟩
                go_simp
                with_reducible rfl
               rotate_left
               ·simp only [Act.put, List.setIfInBounds_toArray, List.set_cons_zero, List.set_cons_succ, i64_w, i32_w]
                rfl
               refine one_ (i := 21) (N := some 102) #[true, true, true, true, true, true, true, true, true, true, true, true, true, true, true, true, true, true, true, true, true, true, false, true, true, false, false, false, false, false, false, false, false, false, false, false, false, false, false, false, false, false, false, false, false, false, false, false] rfl rfl (one_of HT_.out (by kernel_rfl)) (by decide) (fun K hK => ?_)
               refine Kd.R_lit_step (Kd.int .u8) _ 5 ?hg (N := 102) ?hd (xs := ([43] : List Int)) (inner := [.int .u8 43]) (ok := fun _ => True) (okp := fun _ => True) ?hr ?hp (fun _ hk => hk) trivial (Below.refl _ _) (Nat.le_refl _) (by simp) ?_; (case hd => rfl); (case hg => rfl); (case hr => first | (go_simp; done) | (go_simp; rfl)); (case hp => exact (Reps.one (show Kd.M (Kd.int .u8) _ _ _ 43 [.int .u8 43] from rfl) (Reps.none _ _)))
               intro v788 w167 ho168 hb hg_ hnew_
               clear hg_ hnew_
               (first | rw [← Ny787.out] at ho168 | (simp only [Int.reduceToNat] at ho168; rw [← Ny787.out] at ho168))
               have n0_ := Aside0.mk (Kd.R_below (by (with_reducible repeat (first | apply Kd.R_alloc | apply Kd.R_drewN | apply Kd.R_drew)); exact HO_782003.out) hb)
               have n1_ := Aside0.mk (Kd.R_lower ho168 (below_size (bh_ HB)))
               have n2_ := bb_ BK749 hb
               have n3_ := bb_ BK750 hb
               have n4_ := bb_ BK758 hb
               have n5_ := bb_ BK781 hb
               have n6_ := bb_ BK785 hb
               have n7_ := bs_ HB hb
               clear HO_782003
               clear BK749
               clear BK750
               clear BK758
               clear BK781
               clear BK785
               clear HB
               have HO_782003 := n0_
               have HO789 := n1_
               have BK749 := n2_
               have BK750 := n3_
               have BK758 := n4_
               have BK781 := n5_
               have BK785 := n6_
               have HB := n7_
               clear n0_ n1_ n2_ n3_ n4_ n5_ n6_ n7_
               clear hb ho168
               obtain ⟨Ao169, co169, eo169⟩ := Kd.R_slice HO789.out
               (first | subst eo169 | (injection eo169 with f1_ f2_ f3_; have f4_ := f1_.symm; have f5_ := f3_.symm; clear f1_ f2_ f3_; subst f4_; subst f5_))
               refine hK.out _ _ ⟨(blk_cell BK758.out 0).trans rfl, (blk_cell BK758.out 1).trans rfl, (blk_cell BK758.out 2).trans rfl, (blk_cell BK781.out 0).trans rfl, (blk_cell BK781.out 1).trans rfl, (blk_cell BK781.out 2).trans rfl, (blk_cell BK781.out 3).trans rfl, (blk_cell BK785.out 0).trans rfl, (blk_cell BK785.out 1).trans rfl, (blk_cell BK785.out 2).trans rfl, (blk_cell BK750.out 0).trans rfl, (blk_cell BK750.out 1).trans rfl, (blk_cell BK750.out 2).trans rfl, (blk_cell BK750.out 3).trans rfl⟩ (fun hHeld => ?_)
               clear hK K
               refine norm_ (a' := ?_) ?_ ?_
               rotate_left
               ·show Act.put _ (some 102) _ = _
                simp only [Act.put, List.setIfInBounds_toArray, List.set_cons_zero, List.set_cons_succ, i64_w, i32_w]
                rfl
               refine one_ (i := 22) (N := some 103) #[true, true, true, true, true, true, true, true, true, true, true, true, true, true, true, true, true, true, true, true, true, true, true, true, true, false, false, false, false, false, false, false, false, false, false, false, false, false, false, false, false, false, false, false, false, false, false, false] rfl rfl (one_of HT_.out (by kernel_rfl)) (by decide) (fun K hK => ?_)
               refine gq_ Try.func31 (by kernel_rfl) rfl #[.slice A1_3 l1_3.length c1_3, .slice Ao169 y787.length co169] (by rfl) rfl rfl ?_
               with_reducible refine (region_Count.calls kj145 _ _ l1_3 _ _ y787 t790 _ ?side1 ?side2 ?side3 ?side4 A161.out).mono ?_
               (case side1 => exact cb_ HR1_3 HB)
               (case side2 => exact HC1_3.out)
               (case side3 => repeat (first | exact (Kd.R_reads' HO789.out).2.2 | (with_reducible refine Kd.C_alloc ?_ _) | (with_reducible refine Kd.C_drewN ?_ _) | (with_reducible refine Kd.C_drew ?_)))
               (case side4 => exact (Kd.R_reads' HO789.out).2.1)
               rintro e w170 ⟨rfl, hb⟩
               refine ⟨_, rfl, ?_⟩
               have n0_ := Aside0.mk (Kd.R_below (by (with_reducible repeat (first | apply Kd.R_alloc | apply Kd.R_drewN | apply Kd.R_drew)); exact HO_782003.out) hb)
               have n1_ := Aside0.mk (Kd.R_below (by (with_reducible repeat (first | apply Kd.R_alloc | apply Kd.R_drewN | apply Kd.R_drew)); exact HO789.out) hb)
               have n2_ := bb_ BK749 hb
               have n3_ := bb_ BK750 hb
               have n4_ := bb_ BK758 hb
               have n5_ := bb_ BK781 hb
               have n6_ := bb_ BK785 hb
               have n7_ := bs_ HB hb
               clear HO_782003
               clear HO789
               clear BK749
               clear BK750
               clear BK758
               clear BK781
               clear BK785
               clear HB
               have HO_782003 := n0_
               have HO789 := n1_
               have BK749 := n2_
               have BK750 := n3_
               have BK758 := n4_
               have BK781 := n5_
               have BK785 := n6_
               have HB := n7_
               clear n0_ n1_ n2_ n3_ n4_ n5_ n6_ n7_
               (try clear hb)
               (try clear hb2)
               (try clear hk)
               (try clear hi)
               refine hK.out _ _ ⟨(blk_cell BK758.out 0).trans rfl, (blk_cell BK758.out 1).trans rfl, (blk_cell BK758.out 2).trans rfl, (blk_cell BK781.out 0).trans rfl, (blk_cell BK781.out 1).trans rfl, (blk_cell BK781.out 2).trans rfl, (blk_cell BK781.out 3).trans rfl, (blk_cell BK785.out 0).trans rfl, (blk_cell BK785.out 1).trans rfl, (blk_cell BK785.out 2).trans rfl, (blk_cell BK750.out 0).trans rfl, (blk_cell BK750.out 1).trans rfl, (blk_cell BK750.out 2).trans rfl, (blk_cell BK750.out 3).trans rfl⟩ (fun hHeld => ?_)
               clear hK K
               refine norm_ (a' := ?_) ?_ ?_
               rotate_left
               ·show Act.put _ (some 103) _ = _
                simp only [Act.put, List.setIfInBounds_toArray, List.set_cons_zero, List.set_cons_succ, i64_w, i32_w]
                rfl
               refine one_ (i := 25) (N := some 106) #[true, true, true, true, true, true, true, true, true, true, true, true, true, true, true, true, true, true, true, true, true, true, true, true, true, true, false, false, false, false, false, false, false, false, false, false, false, false, false, false, false, false, false, false, false, false, false, false] rfl rfl (one_of HT_.out (by kernel_rfl)) (by decide) (fun K hK => ?_)
               refine gq_ Try.func19 (by kernel_rfl) rfl #[.slice A1_3 l1_3.length c1_3] (by rfl) rfl rfl ?_
               with_reducible refine (region_End.calls kj145 _ _ l1_3 t791 _ ?side1 ?side2 A162.out).mono ?_
               (case side1 => exact cb_ HR1_3 HB)
               (case side2 => exact HC1_3.out)
               rintro e w171 ⟨rfl, hb⟩
               refine ⟨_, rfl, ?_⟩
               have n0_ := Aside0.mk (Kd.R_below (by (with_reducible repeat (first | apply Kd.R_alloc | apply Kd.R_drewN | apply Kd.R_drew)); exact HO_782003.out) hb)
               have n1_ := Aside0.mk (Kd.R_below (by (with_reducible repeat (first | apply Kd.R_alloc | apply Kd.R_drewN | apply Kd.R_drew)); exact HO789.out) hb)
               have n2_ := bb_ BK749 hb
               have n3_ := bb_ BK750 hb
               have n4_ := bb_ BK758 hb
               have n5_ := bb_ BK781 hb
               have n6_ := bb_ BK785 hb
               have n7_ := bs_ HB hb
               clear HO_782003
               clear HO789
               clear BK749
               clear BK750
               clear BK758
               clear BK781
               clear BK785
               clear HB
               have HO_782003 := n0_
               have HO789 := n1_
               have BK749 := n2_
               have BK750 := n3_
               have BK758 := n4_
               have BK781 := n5_
               have BK785 := n6_
               have HB := n7_
               clear n0_ n1_ n2_ n3_ n4_ n5_ n6_ n7_
               (try clear hb)
               (try clear hb2)
               (try clear hk)
               (try clear hi)
               refine hK.out _ _ ⟨(blk_cell BK758.out 0).trans rfl, (blk_cell BK758.out 1).trans rfl, (blk_cell BK758.out 2).trans rfl, (blk_cell BK781.out 0).trans rfl, (blk_cell BK781.out 1).trans rfl, (blk_cell BK781.out 2).trans rfl, (blk_cell BK781.out 3).trans rfl, (blk_cell BK785.out 0).trans rfl, (blk_cell BK785.out 1).trans rfl, (blk_cell BK785.out 2).trans rfl, (blk_cell BK750.out 0).trans rfl, (blk_cell BK750.out 1).trans rfl, (blk_cell BK750.out 2).trans rfl, (blk_cell BK750.out 3).trans rfl⟩ (fun hHeld => ?_)
               clear hK K
               refine norm_ (a' := ?_) ?_ ?_
               rotate_left
               ·show Act.put _ (some 106) _ = _
                simp only [Act.put, List.setIfInBounds_toArray, List.set_cons_zero, List.set_cons_succ, i64_w, i32_w]
                rfl
               refine pu_ 26 107 (lb_ 48 134217727) rfl rfl (any_of HT_.out (by kernel_rfl)) ?_
               refine pu_ 27 108 (lb_ 48 268435455) rfl rfl (any_of HT_.out (by kernel_rfl)) ?_
               refine pd_ 28 109 (lb_ 48 536870911) rfl rfl (any_of HT_.out (by kernel_rfl)) ?_
               refine pd_ 29 110 (lb_ 48 1073741823) rfl rfl (any_of HT_.out (by kernel_rfl)) ?_
               refine pd_ 30 111 (lb_ 48 2147483647) rfl rfl (any_of HT_.out (by kernel_rfl)) ?_
               refine pd_ 31 112 (lb_ 48 4294967295) rfl rfl (any_of HT_.out (by kernel_rfl)) ?_
               refine pd_ 32 113 (lb_ 48 8589934591) rfl rfl (any_of HT_.out (by kernel_rfl)) ?_
               refine pd_ 33 114 (lb_ 48 17179869183) rfl rfl (any_of HT_.out (by kernel_rfl)) ?_
               refine pd_ 34 115 (lb_ 48 34359738367) rfl rfl (any_of HT_.out (by kernel_rfl)) ?_
               refine pd_ 35 116 (lb_ 48 68719476735) rfl rfl (any_of HT_.out (by kernel_rfl)) ?_
               refine pd_ 36 117 (lb_ 48 137438953471) rfl rfl (any_of HT_.out (by kernel_rfl)) ?_
               refine pd_ 37 118 (lb_ 48 274877906943) rfl rfl (any_of HT_.out (by kernel_rfl)) ?_
               refine pd_ 38 119 (lb_ 48 549755813887) rfl rfl (any_of HT_.out (by kernel_rfl)) ?_
               refine pd_ 39 120 (lb_ 48 1099511627775) rfl rfl (any_of HT_.out (by kernel_rfl)) ?_
               refine pd_ 40 121 (lb_ 48 2199023255551) rfl rfl (any_of HT_.out (by kernel_rfl)) ?_
               refine pu_ 41 122 (lb_ 48 4398046511103) rfl rfl (any_of HT_.out (by kernel_rfl)) ?_
               refine pu_ 42 123 (lb_ 48 8796093022207) rfl rfl (any_of HT_.out (by kernel_rfl)) ?_
               refine pu_ 43 124 (lb_ 48 17592186044415) rfl rfl (any_of HT_.out (by kernel_rfl)) ?_
               refine pu_ 44 125 (lb_ 48 35184372088831) rfl rfl (any_of HT_.out (by kernel_rfl)) ?_
               refine one_ (i := 45) (N := some 126) #[true, true, true, true, true, true, true, true, true, true, true, true, true, true, true, true, true, true, true, true, true, true, true, true, true, true, true, true, true, true, true, true, true, true, true, true, true, true, true, true, true, true, true, true, true, true, false, false] rfl rfl (one_of HT_.out (by kernel_rfl)) (by decide) (fun K hK => ?_)
               refine gq_ Try.func3 (by kernel_rfl) rfl #[] (by rfl) rfl rfl ?_
               with_reducible refine (salvorlaw18_PlanRuns.calls kj145  t792 _ A165.out).mono ?_
               rintro e w172 ⟨rfl, hb⟩
               refine ⟨_, rfl, ?_⟩
               have n0_ := Aside0.mk (Kd.R_below (by (with_reducible repeat (first | apply Kd.R_alloc | apply Kd.R_drewN | apply Kd.R_drew)); exact HO_782003.out) hb)
               have n1_ := Aside0.mk (Kd.R_below (by (with_reducible repeat (first | apply Kd.R_alloc | apply Kd.R_drewN | apply Kd.R_drew)); exact HO789.out) hb)
               have n2_ := bb_ BK749 hb
               have n3_ := bb_ BK750 hb
               have n4_ := bb_ BK758 hb
               have n5_ := bb_ BK781 hb
               have n6_ := bb_ BK785 hb
               have n7_ := bs_ HB hb
               clear HO_782003
               clear HO789
               clear BK749
               clear BK750
               clear BK758
               clear BK781
               clear BK785
               clear HB
               have HO_782003 := n0_
               have HO789 := n1_
               have BK749 := n2_
               have BK750 := n3_
               have BK758 := n4_
               have BK781 := n5_
               have BK785 := n6_
               have HB := n7_
               clear n0_ n1_ n2_ n3_ n4_ n5_ n6_ n7_
               (try clear hb)
               (try clear hb2)
               (try clear hk)
               (try clear hi)
               refine hK.out _ _ ⟨(blk_cell BK758.out 0).trans rfl, (blk_cell BK758.out 1).trans rfl, (blk_cell BK758.out 2).trans rfl, (blk_cell BK781.out 0).trans rfl, (blk_cell BK781.out 1).trans rfl, (blk_cell BK781.out 2).trans rfl, (blk_cell BK781.out 3).trans rfl, (blk_cell BK785.out 0).trans rfl, (blk_cell BK785.out 1).trans rfl, (blk_cell BK785.out 2).trans rfl, (blk_cell BK750.out 0).trans rfl, (blk_cell BK750.out 1).trans rfl, (blk_cell BK750.out 2).trans rfl, (blk_cell BK750.out 3).trans rfl⟩ (fun hHeld => ?_)
               clear hK K
               refine norm_ (a' := ?_) ?_ ?_
               rotate_left
               ·show Act.put _ (some 126) _ = _
                simp only [Act.put, List.setIfInBounds_toArray, List.set_cons_zero, List.set_cons_succ, i64_w, i32_w]
                rfl
               refine pu_ 46 127 (lb_ 48 140737488355327) rfl rfl (any_of HT_.out (by kernel_rfl)) ?_
               refine pu_ 47 4 (lb_ 48 281474976710655) rfl rfl (any_of HT_.out (by kernel_rfl)) ?_
               refine done_ (done_of HT_.out (by kernel_rfl)) ?_
               try go_wp2
               go_ret
               exact ⟨by first | rfl | (simp [errW_none, errW_some] <;> rfl) | (simp [*, errW_none, errW_some] <;> rfl), bh_ HB⟩
              ·rw [if_neg c164] at H
               have c164b0 : ((t782 == 0) == true) = false := by simpa using c164
               (try (have c164b1 : decide ((t782 == 0) = true) = false := by simpa using c164))
               (try (have c164b2 : ((t782 == 0) == true) = false := by simpa using c164))
               (try (have c164b3 : ¬ ((t782 == 0) = true) := by simpa using c164))
               clear c164
               exact absurd ((Option.some.inj H).trans HT.out) (by simp)
             ·rw [if_neg c163] at H
              have c163b0 : (t790 == t791) = false := beq_eq_false_iff_ne.mpr c163
              have c163b1 : (t790 != t791) = true := bne_iff_ne.mpr c163
              by_cases c173 : a0_1 = 0
              ·rw [if_pos c173] at H
               have c173b0 : (a0_1 == 0) = true := beq_iff_eq.mpr c173
               have c173b1 : (a0_1 != 0) = false := bne_eq_false_iff_eq.mpr c173
               clear c173
               obtain ⟨y793, hy793⟩ : ∃ y_ : List Int, y_ = (([43, 45] : List Int)) := ⟨_, rfl⟩
               replace H : ((region_Count.f kj145 l1_3 y793).bind fun t796 => ((region_End.f kj145 l1_3).bind fun t797 => (if ((t782 == 0) == (t796 == t797)) = true then ((salvorlaw18_PlanRuns.f kj145).bind fun t798 => (some t798)) else (some false)))) = some r := by first | (rw [hy793]; with_reducible exact H) | (have H2_ := (Option.bind_some _ _).symm.trans H; rw [hy793]; with_reducible exact H2_) | (have H2_ := (Option.bind_some _ _).symm.trans H; with_reducible exact H2_) | with_reducible exact H | (rw [hy793]; exact H) | exact H
               have Ny793 := Aside0.mk hy793
               clear hy793
               replace H := Option.bind_eq_some_iff.mp H
               obtain ⟨t796, A1740, H⟩ := H
               replace H : ((region_End.f kj145 l1_3).bind fun t797 => (if ((t782 == 0) == (t796 == t797)) = true then ((salvorlaw18_PlanRuns.f kj145).bind fun t798 => (some t798)) else (some false))) = some r := H
               have A174 := Aside0.mk A1740
               clear A1740
               replace H := Option.bind_eq_some_iff.mp H
               obtain ⟨t797, A1750, H⟩ := H
               replace H : (if ((t782 == 0) == (t796 == t797)) = true then ((salvorlaw18_PlanRuns.f kj145).bind fun t798 => (some t798)) else (some false)) = some r := H
               have A175 := Aside0.mk A1750
               clear A1750
               by_cases c176 : ((t782 == 0) == (t796 == t797)) = true
               ·rw [if_pos c176] at H
                have c176b0 : ((t782 == 0) == (t796 == t797)) = true := c176
                (try (have c176b1 : decide ((t782 == 0) = (t796 == t797)) = true := by simpa using c176))
                (try (have c176b2 : ((t782 == 0) == (t796 == t797)) = true := by simpa using c176))
                clear c176
                replace H := Option.bind_eq_some_iff.mp H
                obtain ⟨t798, A1770, H⟩ := H
                replace H : (some t798) = some r := H
                have A177 := Aside0.mk A1770
                clear A1770
                obtain rfl := Option.some.inj H
                try go_wp2
                replace HO_782003 := Aside0.mk (Kd.R_drew HO_782003.out)
                replace BK749 := Aside0.mk (blk_drew BK749.out)
                replace BK750 := Aside0.mk (blk_drew BK750.out)
                replace BK758 := Aside0.mk (blk_drew BK758.out)
                replace BK781 := Aside0.mk (blk_drew BK781.out)
                replace BK785 := Aside0.mk (blk_drew BK785.out)
                replace HB := Aside0.mk (below_drew1 HB.out)
                refine start_ (n := 48) (S := fun w' => w'.cell? ⟨gb758, 0, none⟩ = some (.int .i64 t755) ∧ w'.cell? ⟨gb758, 1, none⟩ = some (.int .i64 t756) ∧ w'.cell? ⟨gb758, 2, none⟩ = some (.int .i64 t757) ∧ w'.cell? ⟨gb781, 0, none⟩ = some (.int .i64 t775) ∧ w'.cell? ⟨gb781, 1, none⟩ = some (.int .i64 t776) ∧ w'.cell? ⟨gb781, 2, none⟩ = some (.int .u8 t777) ∧ w'.cell? ⟨gb781, 3, none⟩ = some (.slice Ao131 t778.length co131) ∧ w'.cell? ⟨gb785, 0, none⟩ = some (.int .i64 t782) ∧ w'.cell? ⟨gb785, 1, none⟩ = some (.int .i64 t783) ∧ w'.cell? ⟨gb785, 2, none⟩ = some (.int .i64 t784) ∧ w'.cell? ⟨gb750, 0, none⟩ = some (.int .i64 a1_0) ∧ w'.cell? ⟨gb750, 1, none⟩ = some (.int .i64 a1_1) ∧ w'.cell? ⟨gb750, 2, none⟩ = some (.int .u8 a1_2) ∧ w'.cell? ⟨gb750, 3, none⟩ = some (.slice A1_3 l1_3.length c1_3) ∧ w'.cell? ⟨gb749, 0, none⟩ = some (.int .i64 a0_0) ∧ w'.cell? ⟨gb749, 1, none⟩ = some (.int .i64 a0_1) ∧ w'.cell? ⟨gb749, 2, none⟩ = some (.bool a0_2)) (ds := []) #[false, false, false, false, false, false, false, false, false, false, false, false, false, false, false, false, false, false, false, false, false, false, false, false, false, false, false, false, false, false, false, false, false, false, false, false, false, false, false, false, false, false, false, false, false, false, false, false] (by kernel_rfl) rfl rfl ⟨(blk_cell BK758.out 0).trans rfl, (blk_cell BK758.out 1).trans rfl, (blk_cell BK758.out 2).trans rfl, (blk_cell BK781.out 0).trans rfl, (blk_cell BK781.out 1).trans rfl, (blk_cell BK781.out 2).trans rfl, (blk_cell BK781.out 3).trans rfl, (blk_cell BK785.out 0).trans rfl, (blk_cell BK785.out 1).trans rfl, (blk_cell BK785.out 2).trans rfl, (blk_cell BK750.out 0).trans rfl, (blk_cell BK750.out 1).trans rfl, (blk_cell BK750.out 2).trans rfl, (blk_cell BK750.out 3).trans rfl, (blk_cell BK749.out 0).trans rfl, (blk_cell BK749.out 1).trans rfl, (blk_cell BK749.out 2).trans rfl⟩ (fun hHeld => ?_); refine with_tabW salvorlaw18_PlanOrder.tab20 salvorlaw18_PlanOrder.bits20 (fun HT_ HW_ => ?_)
                generalize wc.drew = w178 at HO_782003 BK749 BK750 BK758 BK781 BK785 HB hHeld ⊢
                refine pu_ 0 81 (lb_ 48 1) rfl rfl (any_of HT_.out (by kernel_rfl)) ?_
                refine pu_ 2 83 (lb_ 48 5) rfl rfl (any_of HT_.out (by kernel_rfl)) ?_
                refine take_ (i := 1) (N := some 82) (v := ?_) (a' := ?_) #[true, true, true, false, false, false, false, false, false, false, false, false, false, false, false, false, false, false, false, false, false, false, false, false, false, false, false, false, false, false, false, false, false, false, false, false, false, false, false, false, false, false, false, false, false, false, false, false] rfl rfl (take_ofW HT_.out HW_.out (by kernel_rfl)) (fun _ _ _ h => h) (Or.inl ⟨by rfl, ?_⟩) hHeld ?_ ?_
                rotate_left
                ·rintro w' ⟨s0, s1, s2, s3, s4, s5, s6, s7, s8, s9, s10, s11, s12, s13, s14, s15, s16⟩
                 go_simp
                 with_reducible rfl
                rotate_left
                ·simp only [Act.put, List.setIfInBounds_toArray, List.set_cons_zero, List.set_cons_succ, i64_w, i32_w]
                 rfl
                refine pu_ 3 84 (lb_ 48 15) rfl rfl (any_of HT_.out (by kernel_rfl)) ?_
                refine pu_ 4 85 (lb_ 48 31) rfl rfl (any_of HT_.out (by kernel_rfl)) ?_
                refine pu_ 5 86 (lb_ 48 63) rfl rfl (any_of HT_.out (by kernel_rfl)) ?_
                refine pu_ 7 88 (lb_ 48 191) rfl rfl (any_of HT_.out (by kernel_rfl)) ?_
                refine take_ (i := 6) (N := some 87) (v := ?_) (a' := ?_) #[true, true, true, true, true, true, true, true, false, false, false, false, false, false, false, false, false, false, false, false, false, false, false, false, false, false, false, false, false, false, false, false, false, false, false, false, false, false, false, false, false, false, false, false, false, false, false, false] rfl rfl (take_ofW HT_.out HW_.out (by kernel_rfl)) (fun _ _ _ h => h) (Or.inl ⟨by rfl, ?_⟩) hHeld ?_ ?_
                rotate_left
                ·rintro w' ⟨s0, s1, s2, s3, s4, s5, s6, s7, s8, s9, s10, s11, s12, s13, s14, s15, s16⟩
                 go_simp
                 with_reducible rfl
                rotate_left
                ·simp only [Act.put, List.setIfInBounds_toArray, List.set_cons_zero, List.set_cons_succ, i64_w, i32_w]
                 rfl
                refine pu_ 8 89 (lb_ 48 511) rfl rfl (any_of HT_.out (by kernel_rfl)) ?_
                refine pu_ 9 90 (lb_ 48 1023) rfl rfl (any_of HT_.out (by kernel_rfl)) ?_
                refine pu_ 10 91 (lb_ 48 2047) rfl rfl (any_of HT_.out (by kernel_rfl)) ?_
                refine pu_ 11 92 (lb_ 48 4095) rfl rfl (any_of HT_.out (by kernel_rfl)) ?_
                refine take_ (i := 12) (N := some 93) (v := ?_) (a' := ?_) #[true, true, true, true, true, true, true, true, true, true, true, true, true, false, false, false, false, false, false, false, false, false, false, false, false, false, false, false, false, false, false, false, false, false, false, false, false, false, false, false, false, false, false, false, false, false, false, false] rfl rfl (take_ofW HT_.out HW_.out (by kernel_rfl)) (fun _ _ _ h => h) (Or.inl ⟨by rfl, ?_⟩) hHeld ?_ ?_
                rotate_left
                ·rintro w' ⟨s0, s1, s2, s3, s4, s5, s6, s7, s8, s9, s10, s11, s12, s13, s14, s15, s16⟩
                 go_simp
                 with_reducible rfl
                rotate_left
                ·simp only [Act.put, List.setIfInBounds_toArray, List.set_cons_zero, List.set_cons_succ, i64_w, i32_w]
                 rfl
                refine pu_ 13 94 (lb_ 48 16383) rfl rfl (any_of HT_.out (by kernel_rfl)) ?_
                refine pu_ 14 95 (lb_ 48 32767) rfl rfl (any_of HT_.out (by kernel_rfl)) ?_
                refine pu_ 15 96 (lb_ 48 65535) rfl rfl (any_of HT_.out (by kernel_rfl)) ?_
                refine pu_ 16 97 (lb_ 48 131071) rfl rfl (any_of HT_.out (by kernel_rfl)) ?_
                refine pu_ 19 100 (lb_ 48 655359) rfl rfl (any_of HT_.out (by kernel_rfl)) ?_
                refine pu_ 23 104 (lb_ 48 9043967) rfl rfl (any_of HT_.out (by kernel_rfl)) ?_
                refine take_ (i := 17) (N := some 98) (v := ?_) (a' := ?_) #[true, true, true, true, true, true, true, true, true, true, true, true, true, true, true, true, true, true, false, true, false, false, false, true, false, false, false, false, false, false, false, false, false, false, false, false, false, false, false, false, false, false, false, false, false, false, false, false] rfl rfl (take_ofW HT_.out HW_.out (by kernel_rfl)) (fun _ _ _ h => h) (Or.inl ⟨by rfl, ?_⟩) hHeld ?_ ?_
                rotate_left
                ·rintro w' ⟨s0, s1, s2, s3, s4, s5, s6, s7, s8, s9, s10, s11, s12, s13, s14, s15, s16⟩
                 go_simp
                 with_reducible rfl
                rotate_left
                ·simp only [Act.put, List.setIfInBounds_toArray, List.set_cons_zero, List.set_cons_succ, i64_w, i32_w]
                 rfl
                refine pu_ 18 99 (lb_ 48 9437183) rfl rfl (any_of HT_.out (by kernel_rfl)) ?_
                refine take_ (i := 20) (N := some 101) (v := ?_) (a' := ?_) #[true, true, true, true, true, true, true, true, true, true, true, true, true, true, true, true, true, true, true, true, true, false, false, true, false, false, false, false, false, false, false, false, false, false, false, false, false, false, false, false, false, false, false, false, false, false, false, false] rfl rfl (take_ofW HT_.out HW_.out (by kernel_rfl)) (fun _ _ _ h => h) (Or.inl ⟨by rfl, ?_⟩) hHeld ?_ ?_
                rotate_left
                ·rintro w' ⟨s0, s1, s2, s3, s4, s5, s6, s7, s8, s9, s10, s11, s12, s13, s14, s15, s16⟩
                 go_simp
                 with_reducible rfl
                rotate_left
                ·simp only [Act.put, List.setIfInBounds_toArray, List.set_cons_zero, List.set_cons_succ, i64_w, i32_w]
                 rfl
                refine take_ (i := 24) (N := some 105) (v := ?_) (a' := ?_) #[true, true, true, true, true, true, true, true, true, true, true, true, true, true, true, true, true, true, true, true, true, false, false, true, true, false, false, false, false, false, false, false, false, false, false, false, false, false, false, false, false, false, false, false, false, false, false, false] rfl rfl (take_ofW HT_.out HW_.out (by kernel_rfl)) (fun _ _ _ h => h) (Or.inl ⟨by rfl, ?_⟩) hHeld ?_ ?_
                rotate_left
                ·rintro w' ⟨s0, s1, s2, s3, s4, s5, s6, s7, s8, s9, s10, s11, s12, s13, s14, s15, s16⟩
                 go_simp
                 with_reducible rfl
                rotate_left
                ·simp only [Act.put, List.setIfInBounds_toArray, List.set_cons_zero, List.set_cons_succ, i64_w, i32_w]
                 rfl
                refine one_ (i := 21) (N := some 102) #[true, true, true, true, true, true, true, true, true, true, true, true, true, true, true, true, true, true, true, true, true, true, false, true, true, false, false, false, false, false, false, false, false, false, false, false, false, false, false, false, false, false, false, false, false, false, false, false] rfl rfl (one_of HT_.out (by kernel_rfl)) (by decide) (fun K hK => ?_)
                refine Kd.R_lit_step (Kd.int .u8) _ 5 ?hg (N := 102) ?hd (xs := ([43] : List Int)) (inner := [.int .u8 43]) (ok := fun _ => True) (okp := fun _ => True) ?hr ?hp (fun _ hk => hk) trivial (Below.refl _ _) (Nat.le_refl _) (by simp) ?_; (case hd => rfl); (case hg => rfl); (case hr => first | (go_simp; done) | (go_simp; rfl)); (case hp => exact (Reps.one (show Kd.M (Kd.int .u8) _ _ _ 43 [.int .u8 43] from rfl) (Reps.none _ _)))
                intro v788 w179 ho180 hb hg_ hnew_
                clear hg_ hnew_
                (first | rw [← Ny787.out] at ho180 | (simp only [Int.reduceToNat] at ho180; rw [← Ny787.out] at ho180))
                have n0_ := Aside0.mk (Kd.R_below (by (with_reducible repeat (first | apply Kd.R_alloc | apply Kd.R_drewN | apply Kd.R_drew)); exact HO_782003.out) hb)
                have n1_ := Aside0.mk (Kd.R_lower ho180 (below_size (bh_ HB)))
                have n2_ := bb_ BK749 hb
                have n3_ := bb_ BK750 hb
                have n4_ := bb_ BK758 hb
                have n5_ := bb_ BK781 hb
                have n6_ := bb_ BK785 hb
                have n7_ := bs_ HB hb
                clear HO_782003
                clear BK749
                clear BK750
                clear BK758
                clear BK781
                clear BK785
                clear HB
                have HO_782003 := n0_
                have HO789 := n1_
                have BK749 := n2_
                have BK750 := n3_
                have BK758 := n4_
                have BK781 := n5_
                have BK785 := n6_
                have HB := n7_
                clear n0_ n1_ n2_ n3_ n4_ n5_ n6_ n7_
                clear hb ho180
                obtain ⟨Ao181, co181, eo181⟩ := Kd.R_slice HO789.out
                (first | subst eo181 | (injection eo181 with f1_ f2_ f3_; have f4_ := f1_.symm; have f5_ := f3_.symm; clear f1_ f2_ f3_; subst f4_; subst f5_))
                refine hK.out _ _ ⟨(blk_cell BK758.out 0).trans rfl, (blk_cell BK758.out 1).trans rfl, (blk_cell BK758.out 2).trans rfl, (blk_cell BK781.out 0).trans rfl, (blk_cell BK781.out 1).trans rfl, (blk_cell BK781.out 2).trans rfl, (blk_cell BK781.out 3).trans rfl, (blk_cell BK785.out 0).trans rfl, (blk_cell BK785.out 1).trans rfl, (blk_cell BK785.out 2).trans rfl, (blk_cell BK750.out 0).trans rfl, (blk_cell BK750.out 1).trans rfl, (blk_cell BK750.out 2).trans rfl, (blk_cell BK750.out 3).trans rfl, (blk_cell BK749.out 0).trans rfl, (blk_cell BK749.out 1).trans rfl, (blk_cell BK749.out 2).trans rfl⟩ (fun hHeld => ?_)
                clear hK K
                refine norm_ (a' := ?_) ?_ ?_
                rotate_left
                ·show Act.put _ (some 102) _ = _
                 simp only [Act.put, List.setIfInBounds_toArray, List.set_cons_zero, List.set_cons_succ, i64_w, i32_w]
                 rfl
                refine one_ (i := 22) (N := some 103) #[true, true, true, true, true, true, true, true, true, true, true, true, true, true, true, true, true, true, true, true, true, true, true, true, true, false, false, false, false, false, false, false, false, false, false, false, false, false, false, false, false, false, false, false, false, false, false, false] rfl rfl (one_of HT_.out (by kernel_rfl)) (by decide) (fun K hK => ?_)
                refine gq_ Try.func31 (by kernel_rfl) rfl #[.slice A1_3 l1_3.length c1_3, .slice Ao181 y787.length co181] (by rfl) rfl rfl ?_
                with_reducible refine (region_Count.calls kj145 _ _ l1_3 _ _ y787 t790 _ ?side1 ?side2 ?side3 ?side4 A161.out).mono ?_
                (case side1 => exact cb_ HR1_3 HB)
                (case side2 => exact HC1_3.out)
                (case side3 => repeat (first | exact (Kd.R_reads' HO789.out).2.2 | (with_reducible refine Kd.C_alloc ?_ _) | (with_reducible refine Kd.C_drewN ?_ _) | (with_reducible refine Kd.C_drew ?_)))
                (case side4 => exact (Kd.R_reads' HO789.out).2.1)
                rintro e w182 ⟨rfl, hb⟩
                refine ⟨_, rfl, ?_⟩
                have n0_ := Aside0.mk (Kd.R_below (by (with_reducible repeat (first | apply Kd.R_alloc | apply Kd.R_drewN | apply Kd.R_drew)); exact HO_782003.out) hb)
                have n1_ := Aside0.mk (Kd.R_below (by (with_reducible repeat (first | apply Kd.R_alloc | apply Kd.R_drewN | apply Kd.R_drew)); exact HO789.out) hb)
                have n2_ := bb_ BK749 hb
                have n3_ := bb_ BK750 hb
                have n4_ := bb_ BK758 hb
                have n5_ := bb_ BK781 hb
                have n6_ := bb_ BK785 hb
                have n7_ := bs_ HB hb
                clear HO_782003
                clear HO789
                clear BK749
                clear BK750
                clear BK758
                clear BK781
                clear BK785
                clear HB
                have HO_782003 := n0_
                have HO789 := n1_
                have BK749 := n2_
                have BK750 := n3_
                have BK758 := n4_
                have BK781 := n5_
                have BK785 := n6_
                have HB := n7_
                clear n0_ n1_ n2_ n3_ n4_ n5_ n6_ n7_
                (try clear hb)
                (try clear hb2)
                (try clear hk)
                (try clear hi)
                refine hK.out _ _ ⟨(blk_cell BK758.out 0).trans rfl, (blk_cell BK758.out 1).trans rfl, (blk_cell BK758.out 2).trans rfl, (blk_cell BK781.out 0).trans rfl, (blk_cell BK781.out 1).trans rfl, (blk_cell BK781.out 2).trans rfl, (blk_cell BK781.out 3).trans rfl, (blk_cell BK785.out 0).trans rfl, (blk_cell BK785.out 1).trans rfl, (blk_cell BK785.out 2).trans rfl, (blk_cell BK750.out 0).trans rfl, (blk_cell BK750.out 1).trans rfl, (blk_cell BK750.out 2).trans rfl, (blk_cell BK750.out 3).trans rfl, (blk_cell BK749.out 0).trans rfl, (blk_cell BK749.out 1).trans rfl, (blk_cell BK749.out 2).trans rfl⟩ (fun hHeld => ?_)
                clear hK K
                refine norm_ (a' := ?_) ?_ ?_
                rotate_left
                ·show Act.put _ (some 103) _ = _
                 simp only [Act.put, List.setIfInBounds_toArray, List.set_cons_zero, List.set_cons_succ, i64_w, i32_w]
                 rfl
                refine one_ (i := 25) (N := some 106) #[true, true, true, true, true, true, true, true, true, true, true, true, true, true, true, true, true, true, true, true, true, true, true, true, true, true, false, false, false, false, false, false, false, false, false, false, false, false, false, false, false, false, false, false, false, false, false, false] rfl rfl (one_of HT_.out (by kernel_rfl)) (by decide) (fun K hK => ?_)
                refine gq_ Try.func19 (by kernel_rfl) rfl #[.slice A1_3 l1_3.length c1_3] (by rfl) rfl rfl ?_
                with_reducible refine (region_End.calls kj145 _ _ l1_3 t791 _ ?side1 ?side2 A162.out).mono ?_
                (case side1 => exact cb_ HR1_3 HB)
                (case side2 => exact HC1_3.out)
                rintro e w183 ⟨rfl, hb⟩
                refine ⟨_, rfl, ?_⟩
                have n0_ := Aside0.mk (Kd.R_below (by (with_reducible repeat (first | apply Kd.R_alloc | apply Kd.R_drewN | apply Kd.R_drew)); exact HO_782003.out) hb)
                have n1_ := Aside0.mk (Kd.R_below (by (with_reducible repeat (first | apply Kd.R_alloc | apply Kd.R_drewN | apply Kd.R_drew)); exact HO789.out) hb)
                have n2_ := bb_ BK749 hb
                have n3_ := bb_ BK750 hb
                have n4_ := bb_ BK758 hb
                have n5_ := bb_ BK781 hb
                have n6_ := bb_ BK785 hb
                have n7_ := bs_ HB hb
                clear HO_782003
                clear HO789
                clear BK749
                clear BK750
                clear BK758
                clear BK781
                clear BK785
                clear HB
                have HO_782003 := n0_
                have HO789 := n1_
                have BK749 := n2_
                have BK750 := n3_
                have BK758 := n4_
                have BK781 := n5_
                have BK785 := n6_
                have HB := n7_
                clear n0_ n1_ n2_ n3_ n4_ n5_ n6_ n7_
                (try clear hb)
                (try clear hb2)
                (try clear hk)
                (try clear hi)
                refine hK.out _ _ ⟨(blk_cell BK758.out 0).trans rfl, (blk_cell BK758.out 1).trans rfl, (blk_cell BK758.out 2).trans rfl, (blk_cell BK781.out 0).trans rfl, (blk_cell BK781.out 1).trans rfl, (blk_cell BK781.out 2).trans rfl, (blk_cell BK781.out 3).trans rfl, (blk_cell BK785.out 0).trans rfl, (blk_cell BK785.out 1).trans rfl, (blk_cell BK785.out 2).trans rfl, (blk_cell BK750.out 0).trans rfl, (blk_cell BK750.out 1).trans rfl, (blk_cell BK750.out 2).trans rfl, (blk_cell BK750.out 3).trans rfl, (blk_cell BK749.out 0).trans rfl, (blk_cell BK749.out 1).trans rfl, (blk_cell BK749.out 2).trans rfl⟩ (fun hHeld => ?_)
                clear hK K
                refine norm_ (a' := ?_) ?_ ?_
                rotate_left
                ·show Act.put _ (some 106) _ = _
                 simp only [Act.put, List.setIfInBounds_toArray, List.set_cons_zero, List.set_cons_succ, i64_w, i32_w]
                 rfl
                refine pu_ 26 107 (lb_ 48 134217727) rfl rfl (any_of HT_.out (by kernel_rfl)) ?_
                refine pu_ 27 108 (lb_ 48 268435455) rfl rfl (any_of HT_.out (by kernel_rfl)) ?_
                refine pu_ 28 109 (lb_ 48 536870911) rfl rfl (any_of HT_.out (by kernel_rfl)) ?_
                refine take_ (i := 29) (N := some 110) (v := ?_) (a' := ?_) #[true, true, true, true, true, true, true, true, true, true, true, true, true, true, true, true, true, true, true, true, true, true, true, true, true, true, true, true, true, true, false, false, false, false, false, false, false, false, false, false, false, false, false, false, false, false, false, false] rfl rfl (take_ofW HT_.out HW_.out (by kernel_rfl)) (fun _ _ _ h => h) (Or.inl ⟨by rfl, ?_⟩) hHeld ?_ ?_
                rotate_left
                ·rintro w' ⟨s0, s1, s2, s3, s4, s5, s6, s7, s8, s9, s10, s11, s12, s13, s14, s15, s16⟩
                 go_simp
                 with_reducible rfl
                rotate_left
                ·simp only [Act.put, List.setIfInBounds_toArray, List.set_cons_zero, List.set_cons_succ, i64_w, i32_w]
                 rfl
                refine pu_ 30 111 (lb_ 48 2147483647) rfl rfl (any_of HT_.out (by kernel_rfl)) ?_
                refine pu_ 31 112 (lb_ 48 4294967295) rfl rfl (any_of HT_.out (by kernel_rfl)) ?_
                refine pu_ 32 113 (lb_ 48 8589934591) rfl rfl (any_of HT_.out (by kernel_rfl)) ?_
                refine pu_ 36 117 (lb_ 48 77309411327) rfl rfl (any_of HT_.out (by kernel_rfl)) ?_
                refine take_ (i := 33) (N := some 114) (v := ?_) (a' := ?_) #[true, true, true, true, true, true, true, true, true, true, true, true, true, true, true, true, true, true, true, true, true, true, true, true, true, true, true, true, true, true, true, true, true, true, false, false, true, false, false, false, false, false, false, false, false, false, false, false] rfl rfl (take_ofW HT_.out HW_.out (by kernel_rfl)) (fun _ _ _ h => h) (Or.inl ⟨by rfl, ?_⟩) hHeld ?_ ?_
                rotate_left
                ·rintro w' ⟨s0, s1, s2, s3, s4, s5, s6, s7, s8, s9, s10, s11, s12, s13, s14, s15, s16⟩
                 go_simp
                 with_reducible rfl
                rotate_left
                ·simp only [Act.put, List.setIfInBounds_toArray, List.set_cons_zero, List.set_cons_succ, i64_w, i32_w]
                 rfl
                refine take_ (i := 37) (N := some 118) (v := ?_) (a' := ?_) #[true, true, true, true, true, true, true, true, true, true, true, true, true, true, true, true, true, true, true, true, true, true, true, true, true, true, true, true, true, true, true, true, true, true, false, false, true, true, false, false, false, false, false, false, false, false, false, false] rfl rfl (take_ofW HT_.out HW_.out (by kernel_rfl)) (fun _ _ _ h => h) (Or.inl ⟨by rfl, ?_⟩) hHeld ?_ ?_
                rotate_left
                ·rintro w' ⟨s0, s1, s2, s3, s4, s5, s6, s7, s8, s9, s10, s11, s12, s13, s14, s15, s16⟩
                 go_simp
                 with_reducible rfl
                rotate_left
                ·simp only [Act.put, List.setIfInBounds_toArray, List.set_cons_zero, List.set_cons_succ, i64_w, i32_w]
                 rfl
                refine one_ (i := 34) (N := some 115) #[true, true, true, true, true, true, true, true, true, true, true, true, true, true, true, true, true, true, true, true, true, true, true, true, true, true, true, true, true, true, true, true, true, true, true, false, true, true, false, false, false, false, false, false, false, false, false, false] rfl rfl (one_of HT_.out (by kernel_rfl)) (by decide) (fun K hK => ?_)
                refine Kd.R_lit_step (Kd.int .u8) _ 5 ?hg (N := 115) ?hd (xs := ([43, 45] : List Int)) (inner := [.int .u8 43, .int .u8 45]) (ok := fun _ => True) (okp := fun _ => True) ?hr ?hp (fun _ hk => hk) trivial (Below.refl _ _) (Nat.le_refl _) (by simp) ?_; (case hd => rfl); (case hg => rfl); (case hr => first | (go_simp; done) | (go_simp; rfl)); (case hp => exact (Reps.one (show Kd.M (Kd.int .u8) _ _ _ 43 [.int .u8 43] from rfl) (Reps.one (show Kd.M (Kd.int .u8) _ _ _ 45 [.int .u8 45] from rfl) (Reps.none _ _))))
                intro v794 w184 ho185 hb hg_ hnew_
                clear hg_ hnew_
                (first | rw [← Ny793.out] at ho185 | (simp only [Int.reduceToNat] at ho185; rw [← Ny793.out] at ho185))
                have n0_ := Aside0.mk (Kd.R_below (by (with_reducible repeat (first | apply Kd.R_alloc | apply Kd.R_drewN | apply Kd.R_drew)); exact HO_782003.out) hb)
                have n1_ := Aside0.mk (Kd.R_elder' (by (with_reducible repeat (first | apply Kd.R_alloc | apply Kd.R_drewN | apply Kd.R_drew)); exact HO789.out) (Kd.R_base ho185) hb)
                have n2_ := Aside0.mk (Kd.R_lower (Kd.R_new' ho185 (Kd.R_lt (by (with_reducible repeat (first | apply Kd.R_alloc | apply Kd.R_drewN | apply Kd.R_drew)); exact HO789.out))) (below_size (bh_ HB)))
                have n3_ := bb_ BK749 hb
                have n4_ := bb_ BK750 hb
                have n5_ := bb_ BK758 hb
                have n6_ := bb_ BK781 hb
                have n7_ := bb_ BK785 hb
                have n8_ := bs_ HB hb
                clear HO_782003
                clear HO789
                clear BK749
                clear BK750
                clear BK758
                clear BK781
                clear BK785
                clear HB
                have HO_782003 := n0_
                have HO789 := n1_
                have HO795 := n2_
                have BK749 := n3_
                have BK750 := n4_
                have BK758 := n5_
                have BK781 := n6_
                have BK785 := n7_
                have HB := n8_
                clear n0_ n1_ n2_ n3_ n4_ n5_ n6_ n7_ n8_
                clear hb ho185
                obtain ⟨Ao186, co186, eo186⟩ := Kd.R_slice HO795.out
                (first | subst eo186 | (injection eo186 with f1_ f2_ f3_; have f4_ := f1_.symm; have f5_ := f3_.symm; clear f1_ f2_ f3_; subst f4_; subst f5_))
                refine hK.out _ _ ⟨(blk_cell BK758.out 0).trans rfl, (blk_cell BK758.out 1).trans rfl, (blk_cell BK758.out 2).trans rfl, (blk_cell BK781.out 0).trans rfl, (blk_cell BK781.out 1).trans rfl, (blk_cell BK781.out 2).trans rfl, (blk_cell BK781.out 3).trans rfl, (blk_cell BK785.out 0).trans rfl, (blk_cell BK785.out 1).trans rfl, (blk_cell BK785.out 2).trans rfl, (blk_cell BK750.out 0).trans rfl, (blk_cell BK750.out 1).trans rfl, (blk_cell BK750.out 2).trans rfl, (blk_cell BK750.out 3).trans rfl, (blk_cell BK749.out 0).trans rfl, (blk_cell BK749.out 1).trans rfl, (blk_cell BK749.out 2).trans rfl⟩ (fun hHeld => ?_)
                clear hK K
                refine norm_ (a' := ?_) ?_ ?_
                rotate_left
                ·show Act.put _ (some 115) _ = _
                 simp only [Act.put, List.setIfInBounds_toArray, List.set_cons_zero, List.set_cons_succ, i64_w, i32_w]
                 rfl
                refine one_ (i := 35) (N := some 116) #[true, true, true, true, true, true, true, true, true, true, true, true, true, true, true, true, true, true, true, true, true, true, true, true, true, true, true, true, true, true, true, true, true, true, true, true, true, true, false, false, false, false, false, false, false, false, false, false] rfl rfl (one_of HT_.out (by kernel_rfl)) (by decide) (fun K hK => ?_)
                refine gq_ Try.func31 (by kernel_rfl) rfl #[.slice A1_3 l1_3.length c1_3, .slice Ao186 y793.length co186] (by rfl) rfl rfl ?_
                with_reducible refine (region_Count.calls kj145 _ _ l1_3 _ _ y793 t796 _ ?side1 ?side2 ?side3 ?side4 A174.out).mono ?_
                (case side1 => exact cb_ HR1_3 HB)
                (case side2 => exact HC1_3.out)
                (case side3 => repeat (first | exact (Kd.R_reads' HO795.out).2.2 | (with_reducible refine Kd.C_alloc ?_ _) | (with_reducible refine Kd.C_drewN ?_ _) | (with_reducible refine Kd.C_drew ?_)))
                (case side4 => exact (Kd.R_reads' HO795.out).2.1)
                rintro e w187 ⟨rfl, hb⟩
                refine ⟨_, rfl, ?_⟩
                have n0_ := Aside0.mk (Kd.R_below (by (with_reducible repeat (first | apply Kd.R_alloc | apply Kd.R_drewN | apply Kd.R_drew)); exact HO_782003.out) hb)
                have n1_ := Aside0.mk (Kd.R_below (by (with_reducible repeat (first | apply Kd.R_alloc | apply Kd.R_drewN | apply Kd.R_drew)); exact HO789.out) hb)
                have n2_ := Aside0.mk (Kd.R_below (by (with_reducible repeat (first | apply Kd.R_alloc | apply Kd.R_drewN | apply Kd.R_drew)); exact HO795.out) hb)
                have n3_ := bb_ BK749 hb
                have n4_ := bb_ BK750 hb
                have n5_ := bb_ BK758 hb
                have n6_ := bb_ BK781 hb
                have n7_ := bb_ BK785 hb
                have n8_ := bs_ HB hb
                clear HO_782003
                clear HO789
                clear HO795
                clear BK749
                clear BK750
                clear BK758
                clear BK781
                clear BK785
                clear HB
                have HO_782003 := n0_
                have HO789 := n1_
                have HO795 := n2_
                have BK749 := n3_
                have BK750 := n4_
                have BK758 := n5_
                have BK781 := n6_
                have BK785 := n7_
                have HB := n8_
                clear n0_ n1_ n2_ n3_ n4_ n5_ n6_ n7_ n8_
                (try clear hb)
                (try clear hb2)
                (try clear hk)
                (try clear hi)
                refine hK.out _ _ ⟨(blk_cell BK758.out 0).trans rfl, (blk_cell BK758.out 1).trans rfl, (blk_cell BK758.out 2).trans rfl, (blk_cell BK781.out 0).trans rfl, (blk_cell BK781.out 1).trans rfl, (blk_cell BK781.out 2).trans rfl, (blk_cell BK781.out 3).trans rfl, (blk_cell BK785.out 0).trans rfl, (blk_cell BK785.out 1).trans rfl, (blk_cell BK785.out 2).trans rfl, (blk_cell BK750.out 0).trans rfl, (blk_cell BK750.out 1).trans rfl, (blk_cell BK750.out 2).trans rfl, (blk_cell BK750.out 3).trans rfl, (blk_cell BK749.out 0).trans rfl, (blk_cell BK749.out 1).trans rfl, (blk_cell BK749.out 2).trans rfl⟩ (fun hHeld => ?_)
                clear hK K
                refine norm_ (a' := ?_) ?_ ?_
                rotate_left
                ·show Act.put _ (some 116) _ = _
                 simp only [Act.put, List.setIfInBounds_toArray, List.set_cons_zero, List.set_cons_succ, i64_w, i32_w]
                 rfl
                refine one_ (i := 38) (N := some 119) #[true, true, true, true, true, true, true, true, true, true, true, true, true, true, true, true, true, true, true, true, true, true, true, true, true, true, true, true, true, true, true, true, true, true, true, true, true, true, true, false, false, false, false, false, false, false, false, false] rfl rfl (one_of HT_.out (by kernel_rfl)) (by decide) (fun K hK => ?_)
                refine gq_ Try.func19 (by kernel_rfl) rfl #[.slice A1_3 l1_3.length c1_3] (by rfl) rfl rfl ?_
                with_reducible refine (region_End.calls kj145 _ _ l1_3 t797 _ ?side1 ?side2 A175.out).mono ?_
                (case side1 => exact cb_ HR1_3 HB)
                (case side2 => exact HC1_3.out)
                rintro e w188 ⟨rfl, hb⟩
                refine ⟨_, rfl, ?_⟩
                have n0_ := Aside0.mk (Kd.R_below (by (with_reducible repeat (first | apply Kd.R_alloc | apply Kd.R_drewN | apply Kd.R_drew)); exact HO_782003.out) hb)
                have n1_ := Aside0.mk (Kd.R_below (by (with_reducible repeat (first | apply Kd.R_alloc | apply Kd.R_drewN | apply Kd.R_drew)); exact HO789.out) hb)
                have n2_ := Aside0.mk (Kd.R_below (by (with_reducible repeat (first | apply Kd.R_alloc | apply Kd.R_drewN | apply Kd.R_drew)); exact HO795.out) hb)
                have n3_ := bb_ BK749 hb
                have n4_ := bb_ BK750 hb
                have n5_ := bb_ BK758 hb
                have n6_ := bb_ BK781 hb
                have n7_ := bb_ BK785 hb
                have n8_ := bs_ HB hb
                clear HO_782003
                clear HO789
                clear HO795
                clear BK749
                clear BK750
                clear BK758
                clear BK781
                clear BK785
                clear HB
                have HO_782003 := n0_
                have HO789 := n1_
                have HO795 := n2_
                have BK749 := n3_
                have BK750 := n4_
                have BK758 := n5_
                have BK781 := n6_
                have BK785 := n7_
                have HB := n8_
                clear n0_ n1_ n2_ n3_ n4_ n5_ n6_ n7_ n8_
                (try clear hb)
                (try clear hb2)
                (try clear hk)
                (try clear hi)
                refine hK.out _ _ ⟨(blk_cell BK758.out 0).trans rfl, (blk_cell BK758.out 1).trans rfl, (blk_cell BK758.out 2).trans rfl, (blk_cell BK781.out 0).trans rfl, (blk_cell BK781.out 1).trans rfl, (blk_cell BK781.out 2).trans rfl, (blk_cell BK781.out 3).trans rfl, (blk_cell BK785.out 0).trans rfl, (blk_cell BK785.out 1).trans rfl, (blk_cell BK785.out 2).trans rfl, (blk_cell BK750.out 0).trans rfl, (blk_cell BK750.out 1).trans rfl, (blk_cell BK750.out 2).trans rfl, (blk_cell BK750.out 3).trans rfl, (blk_cell BK749.out 0).trans rfl, (blk_cell BK749.out 1).trans rfl, (blk_cell BK749.out 2).trans rfl⟩ (fun hHeld => ?_)
                clear hK K
                refine norm_ (a' := ?_) ?_ ?_
                rotate_left
                ·show Act.put _ (some 119) _ = _
                 simp only [Act.put, List.setIfInBounds_toArray, List.set_cons_zero, List.set_cons_succ, i64_w, i32_w]
                 rfl
                refine pu_ 39 120 (lb_ 48 1099511627775) rfl rfl (any_of HT_.out (by kernel_rfl)) ?_
                refine pu_ 40 121 (lb_ 48 2199023255551) rfl rfl (any_of HT_.out (by kernel_rfl)) ?_
                refine pu_ 41 122 (lb_ 48 4398046511103) rfl rfl (any_of HT_.out (by kernel_rfl)) ?_
                refine pu_ 42 123 (lb_ 48 8796093022207) rfl rfl (any_of HT_.out (by kernel_rfl)) ?_
                refine pu_ 43 124 (lb_ 48 17592186044415) rfl rfl (any_of HT_.out (by kernel_rfl)) ?_
                refine pu_ 44 125 (lb_ 48 35184372088831) rfl rfl (any_of HT_.out (by kernel_rfl)) ?_
                refine one_ (i := 45) (N := some 126) #[true, true, true, true, true, true, true, true, true, true, true, true, true, true, true, true, true, true, true, true, true, true, true, true, true, true, true, true, true, true, true, true, true, true, true, true, true, true, true, true, true, true, true, true, true, true, false, false] rfl rfl (one_of HT_.out (by kernel_rfl)) (by decide) (fun K hK => ?_)
                refine gq_ Try.func3 (by kernel_rfl) rfl #[] (by rfl) rfl rfl ?_
                with_reducible refine (salvorlaw18_PlanRuns.calls kj145  t798 _ A177.out).mono ?_
                rintro e w189 ⟨rfl, hb⟩
                refine ⟨_, rfl, ?_⟩
                have n0_ := Aside0.mk (Kd.R_below (by (with_reducible repeat (first | apply Kd.R_alloc | apply Kd.R_drewN | apply Kd.R_drew)); exact HO_782003.out) hb)
                have n1_ := Aside0.mk (Kd.R_below (by (with_reducible repeat (first | apply Kd.R_alloc | apply Kd.R_drewN | apply Kd.R_drew)); exact HO789.out) hb)
                have n2_ := Aside0.mk (Kd.R_below (by (with_reducible repeat (first | apply Kd.R_alloc | apply Kd.R_drewN | apply Kd.R_drew)); exact HO795.out) hb)
                have n3_ := bb_ BK749 hb
                have n4_ := bb_ BK750 hb
                have n5_ := bb_ BK758 hb
                have n6_ := bb_ BK781 hb
                have n7_ := bb_ BK785 hb
                have n8_ := bs_ HB hb
                clear HO_782003
                clear HO789
                clear HO795
                clear BK749
                clear BK750
                clear BK758
                clear BK781
                clear BK785
                clear HB
                have HO_782003 := n0_
                have HO789 := n1_
                have HO795 := n2_
                have BK749 := n3_
                have BK750 := n4_
                have BK758 := n5_
                have BK781 := n6_
                have BK785 := n7_
                have HB := n8_
                clear n0_ n1_ n2_ n3_ n4_ n5_ n6_ n7_ n8_
                (try clear hb)
                (try clear hb2)
                (try clear hk)
                (try clear hi)
                refine hK.out _ _ ⟨(blk_cell BK758.out 0).trans rfl, (blk_cell BK758.out 1).trans rfl, (blk_cell BK758.out 2).trans rfl, (blk_cell BK781.out 0).trans rfl, (blk_cell BK781.out 1).trans rfl, (blk_cell BK781.out 2).trans rfl, (blk_cell BK781.out 3).trans rfl, (blk_cell BK785.out 0).trans rfl, (blk_cell BK785.out 1).trans rfl, (blk_cell BK785.out 2).trans rfl, (blk_cell BK750.out 0).trans rfl, (blk_cell BK750.out 1).trans rfl, (blk_cell BK750.out 2).trans rfl, (blk_cell BK750.out 3).trans rfl, (blk_cell BK749.out 0).trans rfl, (blk_cell BK749.out 1).trans rfl, (blk_cell BK749.out 2).trans rfl⟩ (fun hHeld => ?_)
                clear hK K
                refine norm_ (a' := ?_) ?_ ?_
                rotate_left
                ·show Act.put _ (some 126) _ = _
                 simp only [Act.put, List.setIfInBounds_toArray, List.set_cons_zero, List.set_cons_succ, i64_w, i32_w]
                 rfl
                refine pu_ 46 127 (lb_ 48 140737488355327) rfl rfl (any_of HT_.out (by kernel_rfl)) ?_
                refine pu_ 47 4 (lb_ 48 281474976710655) rfl rfl (any_of HT_.out (by kernel_rfl)) ?_
                refine done_ (done_of HT_.out (by kernel_rfl)) ?_
                try go_wp2
                go_ret
                exact ⟨by first | rfl | (simp [errW_none, errW_some] <;> rfl) | (simp [*, errW_none, errW_some] <;> rfl), bh_ HB⟩
               ·rw [if_neg c176] at H
                have c176b0 : ((t782 == 0) == (t796 == t797)) = false := by simpa using c176
                (try (have c176b1 : decide ((t782 == 0) = (t796 == t797)) = false := by simpa using c176))
                (try (have c176b2 : ((t782 == 0) == (t796 == t797)) = false := by simpa using c176))
                (try (have c176b3 : ¬ ((t782 == 0) = (t796 == t797)) := by simpa using c176))
                clear c176
                exact absurd ((Option.some.inj H).trans HT.out) (by simp)
              ·rw [if_neg c173] at H
               have c173b0 : (a0_1 == 0) = false := beq_eq_false_iff_ne.mpr c173
               have c173b1 : (a0_1 != 0) = true := bne_iff_ne.mpr c173
               by_cases c190 : ((t782 == 0) == false) = true
               ·rw [if_pos c190] at H
                have c190b0 : ((t782 == 0) == false) = true := c190
                (try (have c190b1 : decide ((t782 == 0) = false) = true := by simpa using c190))
                (try (have c190b2 : ((t782 == 0) == false) = true := by simpa using c190))
                clear c190
                replace H := Option.bind_eq_some_iff.mp H
                obtain ⟨t799, A1910, H⟩ := H
                replace H : (some t799) = some r := H
                have A191 := Aside0.mk A1910
                clear A1910
                obtain rfl := Option.some.inj H
                try go_wp2
                replace HO_782003 := Aside0.mk (Kd.R_drew HO_782003.out)
                replace BK749 := Aside0.mk (blk_drew BK749.out)
                replace BK750 := Aside0.mk (blk_drew BK750.out)
                replace BK758 := Aside0.mk (blk_drew BK758.out)
                replace BK781 := Aside0.mk (blk_drew BK781.out)
                replace BK785 := Aside0.mk (blk_drew BK785.out)
                replace HB := Aside0.mk (below_drew1 HB.out)
                refine start_ (n := 48) (S := fun w' => w'.cell? ⟨gb758, 0, none⟩ = some (.int .i64 t755) ∧ w'.cell? ⟨gb758, 1, none⟩ = some (.int .i64 t756) ∧ w'.cell? ⟨gb758, 2, none⟩ = some (.int .i64 t757) ∧ w'.cell? ⟨gb781, 0, none⟩ = some (.int .i64 t775) ∧ w'.cell? ⟨gb781, 1, none⟩ = some (.int .i64 t776) ∧ w'.cell? ⟨gb781, 2, none⟩ = some (.int .u8 t777) ∧ w'.cell? ⟨gb781, 3, none⟩ = some (.slice Ao131 t778.length co131) ∧ w'.cell? ⟨gb785, 0, none⟩ = some (.int .i64 t782) ∧ w'.cell? ⟨gb785, 1, none⟩ = some (.int .i64 t783) ∧ w'.cell? ⟨gb785, 2, none⟩ = some (.int .i64 t784) ∧ w'.cell? ⟨gb750, 0, none⟩ = some (.int .i64 a1_0) ∧ w'.cell? ⟨gb750, 1, none⟩ = some (.int .i64 a1_1) ∧ w'.cell? ⟨gb750, 2, none⟩ = some (.int .u8 a1_2) ∧ w'.cell? ⟨gb750, 3, none⟩ = some (.slice A1_3 l1_3.length c1_3) ∧ w'.cell? ⟨gb749, 0, none⟩ = some (.int .i64 a0_0) ∧ w'.cell? ⟨gb749, 1, none⟩ = some (.int .i64 a0_1) ∧ w'.cell? ⟨gb749, 2, none⟩ = some (.bool a0_2)) (ds := []) #[false, false, false, false, false, false, false, false, false, false, false, false, false, false, false, false, false, false, false, false, false, false, false, false, false, false, false, false, false, false, false, false, false, false, false, false, false, false, false, false, false, false, false, false, false, false, false, false] (by kernel_rfl) rfl rfl ⟨(blk_cell BK758.out 0).trans rfl, (blk_cell BK758.out 1).trans rfl, (blk_cell BK758.out 2).trans rfl, (blk_cell BK781.out 0).trans rfl, (blk_cell BK781.out 1).trans rfl, (blk_cell BK781.out 2).trans rfl, (blk_cell BK781.out 3).trans rfl, (blk_cell BK785.out 0).trans rfl, (blk_cell BK785.out 1).trans rfl, (blk_cell BK785.out 2).trans rfl, (blk_cell BK750.out 0).trans rfl, (blk_cell BK750.out 1).trans rfl, (blk_cell BK750.out 2).trans rfl, (blk_cell BK750.out 3).trans rfl, (blk_cell BK749.out 0).trans rfl, (blk_cell BK749.out 1).trans rfl, (blk_cell BK749.out 2).trans rfl⟩ (fun hHeld => ?_); refine with_tabW salvorlaw18_PlanOrder.tab20 salvorlaw18_PlanOrder.bits20 (fun HT_ HW_ => ?_)
                generalize wc.drew = w192 at HO_782003 BK749 BK750 BK758 BK781 BK785 HB hHeld ⊢
                refine pu_ 0 81 (lb_ 48 1) rfl rfl (any_of HT_.out (by kernel_rfl)) ?_
                refine pu_ 2 83 (lb_ 48 5) rfl rfl (any_of HT_.out (by kernel_rfl)) ?_
                refine take_ (i := 1) (N := some 82) (v := ?_) (a' := ?_) #[true, true, true, false, false, false, false, false, false, false, false, false, false, false, false, false, false, false, false, false, false, false, false, false, false, false, false, false, false, false, false, false, false, false, false, false, false, false, false, false, false, false, false, false, false, false, false, false] rfl rfl (take_ofW HT_.out HW_.out (by kernel_rfl)) (fun _ _ _ h => h) (Or.inl ⟨by rfl, ?_⟩) hHeld ?_ ?_
                rotate_left
                ·rintro w' ⟨s0, s1, s2, s3, s4, s5, s6, s7, s8, s9, s10, s11, s12, s13, s14, s15, s16⟩
                 go_simp
                 with_reducible rfl
                rotate_left
                ·simp only [Act.put, List.setIfInBounds_toArray, List.set_cons_zero, List.set_cons_succ, i64_w, i32_w]
                 rfl
                refine pu_ 3 84 (lb_ 48 15) rfl rfl (any_of HT_.out (by kernel_rfl)) ?_
                refine pu_ 4 85 (lb_ 48 31) rfl rfl (any_of HT_.out (by kernel_rfl)) ?_
                refine pu_ 5 86 (lb_ 48 63) rfl rfl (any_of HT_.out (by kernel_rfl)) ?_
                refine pu_ 7 88 (lb_ 48 191) rfl rfl (any_of HT_.out (by kernel_rfl)) ?_
                refine take_ (i := 6) (N := some 87) (v := ?_) (a' := ?_) #[true, true, true, true, true, true, true, true, false, false, false, false, false, false, false, false, false, false, false, false, false, false, false, false, false, false, false, false, false, false, false, false, false, false, false, false, false, false, false, false, false, false, false, false, false, false, false, false] rfl rfl (take_ofW HT_.out HW_.out (by kernel_rfl)) (fun _ _ _ h => h) (Or.inl ⟨by rfl, ?_⟩) hHeld ?_ ?_
                rotate_left
                ·rintro w' ⟨s0, s1, s2, s3, s4, s5, s6, s7, s8, s9, s10, s11, s12, s13, s14, s15, s16⟩
                 go_simp
                 with_reducible rfl
                rotate_left
                ·simp only [Act.put, List.setIfInBounds_toArray, List.set_cons_zero, List.set_cons_succ, i64_w, i32_w]
                 rfl
                refine pu_ 8 89 (lb_ 48 511) rfl rfl (any_of HT_.out (by kernel_rfl)) ?_
                refine pu_ 9 90 (lb_ 48 1023) rfl rfl (any_of HT_.out (by kernel_rfl)) ?_
                refine pu_ 10 91 (lb_ 48 2047) rfl rfl (any_of HT_.out (by kernel_rfl)) ?_
                refine pu_ 11 92 (lb_ 48 4095) rfl rfl (any_of HT_.out (by kernel_rfl)) ?_
                refine take_ (i := 12) (N := some 93) (v := ?_) (a' := ?_) #[true, true, true, true, true, true, true, true, true, true, true, true, true, false, false, false, false, false, false, false, false, false, false, false, false, false, false, false, false, false, false, false, false, false, false, false, false, false, false, false, false, false, false, false, false, false, false, false] rfl rfl (take_ofW HT_.out HW_.out (by kernel_rfl)) (fun _ _ _ h => h) (Or.inl ⟨by rfl, ?_⟩) hHeld ?_ ?_
                rotate_left
                ·rintro w' ⟨s0, s1, s2, s3, s4, s5, s6, s7, s8, s9, s10, s11, s12, s13, s14, s15, s16⟩
                 go_simp
                 with_reducible rfl
                rotate_left
                ·simp only [Act.put, List.setIfInBounds_toArray, List.set_cons_zero, List.set_cons_succ, i64_w, i32_w]
                 rfl
                refine pu_ 13 94 (lb_ 48 16383) rfl rfl (any_of HT_.out (by kernel_rfl)) ?_
                refine pu_ 14 95 (lb_ 48 32767) rfl rfl (any_of HT_.out (by kernel_rfl)) ?_
                refine pu_ 15 96 (lb_ 48 65535) rfl rfl (any_of HT_.out (by kernel_rfl)) ?_
                refine pu_ 16 97 (lb_ 48 131071) rfl rfl (any_of HT_.out (by kernel_rfl)) ?_
                refine pu_ 19 100 (lb_ 48 655359) rfl rfl (any_of HT_.out (by kernel_rfl)) ?_
                refine pu_ 23 104 (lb_ 48 9043967) rfl rfl (any_of HT_.out (by kernel_rfl)) ?_
                refine take_ (i := 17) (N := some 98) (v := ?_) (a' := ?_) #[true, true, true, true, true, true, true, true, true, true, true, true, true, true, true, true, true, true, false, true, false, false, false, true, false, false, false, false, false, false, false, false, false, false, false, false, false, false, false, false, false, false, false, false, false, false, false, false] rfl rfl (take_ofW HT_.out HW_.out (by kernel_rfl)) (fun _ _ _ h => h) (Or.inl ⟨by rfl, ?_⟩) hHeld ?_ ?_
                rotate_left
                ·rintro w' ⟨s0, s1, s2, s3, s4, s5, s6, s7, s8, s9, s10, s11, s12, s13, s14, s15, s16⟩
                 go_simp
                 with_reducible rfl
                rotate_left
                ·simp only [Act.put, List.setIfInBounds_toArray, List.set_cons_zero, List.set_cons_succ, i64_w, i32_w]
                 rfl
                refine pu_ 18 99 (lb_ 48 9437183) rfl rfl (any_of HT_.out (by kernel_rfl)) ?_
                refine take_ (i := 20) (N := some 101) (v := ?_) (a' := ?_) #[true, true, true, true, true, true, true, true, true, true, true, true, true, true, true, true, true, true, true, true, true, false, false, true, false, false, false, false, false, false, false, false, false, false, false, false, false, false, false, false, false, false, false, false, false, false, false, false] rfl rfl (take_ofW HT_.out HW_.out (by kernel_rfl)) (fun _ _ _ h => h) (Or.inl ⟨by rfl, ?_⟩) hHeld ?_ ?_
                rotate_left
                ·rintro w' ⟨s0, s1, s2, s3, s4, s5, s6, s7, s8, s9, s10, s11, s12, s13, s14, s15, s16⟩
                 go_simp
                 with_reducible rfl
                rotate_left
                ·simp only [Act.put, List.setIfInBounds_toArray, List.set_cons_zero, List.set_cons_succ, i64_w, i32_w]
                 rfl
                refine take_ (i := 24) (N := some 105) (v := ?_) (a' := ?_) #[true, true, true, true, true, true, true, true, true, true, true, true, true, true, true, true, true, true, true, true, true, false, false, true, true, false, false, false, false, false, false, false, false, false, false, false, false, false, false, false, false, false, false, false, false, false, false, false] rfl rfl (take_ofW HT_.out HW_.out (by kernel_rfl)) (fun _ _ _ h => h) (Or.inl ⟨by rfl, ?_⟩) hHeld ?_ ?_
                rotate_left
                ·rintro w' ⟨s0, s1, s2, s3, s4, s5, s6, s7, s8, s9, s10, s11, s12, s13, s14, s15, s16⟩
                 go_simp
                 with_reducible rfl
                rotate_left
                ·simp only [Act.put, List.setIfInBounds_toArray, List.set_cons_zero, List.set_cons_succ, i64_w, i32_w]
                 rfl
                refine one_ (i := 21) (N := some 102) #[true, true, true, true, true, true, true, true, true, true, true, true, true, true, true, true, true, true, true, true, true, true, false, true, true, false, false, false, false, false, false, false, false, false, false, false, false, false, false, false, false, false, false, false, false, false, false, false] rfl rfl (one_of HT_.out (by kernel_rfl)) (by decide) (fun K hK => ?_)
                refine Kd.R_lit_step (Kd.int .u8) _ 5 ?hg (N := 102) ?hd (xs := ([43] : List Int)) (inner := [.int .u8 43]) (ok := fun _ => True) (okp := fun _ => True) ?hr ?hp (fun _ hk => hk) trivial (Below.refl _ _) (Nat.le_refl _) (by simp) ?_; (case hd => rfl); (case hg => rfl); (case hr => first | (go_simp; done) | (go_simp; rfl)); (case hp => exact (Reps.one (show Kd.M (Kd.int .u8) _ _ _ 43 [.int .u8 43] from rfl) (Reps.none _ _)))
                intro v788 w193 ho194 hb hg_ hnew_
                clear hg_ hnew_
                (first | rw [← Ny787.out] at ho194 | (simp only [Int.reduceToNat] at ho194; rw [← Ny787.out] at ho194))
                have n0_ := Aside0.mk (Kd.R_below (by (with_reducible repeat (first | apply Kd.R_alloc | apply Kd.R_drewN | apply Kd.R_drew)); exact HO_782003.out) hb)
                have n1_ := Aside0.mk (Kd.R_lower ho194 (below_size (bh_ HB)))
                have n2_ := bb_ BK749 hb
                have n3_ := bb_ BK750 hb
                have n4_ := bb_ BK758 hb
                have n5_ := bb_ BK781 hb
                have n6_ := bb_ BK785 hb
                have n7_ := bs_ HB hb
                clear HO_782003
                clear BK749
                clear BK750
                clear BK758
                clear BK781
                clear BK785
                clear HB
                have HO_782003 := n0_
                have HO789 := n1_
                have BK749 := n2_
                have BK750 := n3_
                have BK758 := n4_
                have BK781 := n5_
                have BK785 := n6_
                have HB := n7_
                clear n0_ n1_ n2_ n3_ n4_ n5_ n6_ n7_
                clear hb ho194
                obtain ⟨Ao195, co195, eo195⟩ := Kd.R_slice HO789.out
                (first | subst eo195 | (injection eo195 with f1_ f2_ f3_; have f4_ := f1_.symm; have f5_ := f3_.symm; clear f1_ f2_ f3_; subst f4_; subst f5_))
                refine hK.out _ _ ⟨(blk_cell BK758.out 0).trans rfl, (blk_cell BK758.out 1).trans rfl, (blk_cell BK758.out 2).trans rfl, (blk_cell BK781.out 0).trans rfl, (blk_cell BK781.out 1).trans rfl, (blk_cell BK781.out 2).trans rfl, (blk_cell BK781.out 3).trans rfl, (blk_cell BK785.out 0).trans rfl, (blk_cell BK785.out 1).trans rfl, (blk_cell BK785.out 2).trans rfl, (blk_cell BK750.out 0).trans rfl, (blk_cell BK750.out 1).trans rfl, (blk_cell BK750.out 2).trans rfl, (blk_cell BK750.out 3).trans rfl, (blk_cell BK749.out 0).trans rfl, (blk_cell BK749.out 1).trans rfl, (blk_cell BK749.out 2).trans rfl⟩ (fun hHeld => ?_)
                clear hK K
                refine norm_ (a' := ?_) ?_ ?_
                rotate_left
                ·show Act.put _ (some 102) _ = _
                 simp only [Act.put, List.setIfInBounds_toArray, List.set_cons_zero, List.set_cons_succ, i64_w, i32_w]
                 rfl
                refine one_ (i := 22) (N := some 103) #[true, true, true, true, true, true, true, true, true, true, true, true, true, true, true, true, true, true, true, true, true, true, true, true, true, false, false, false, false, false, false, false, false, false, false, false, false, false, false, false, false, false, false, false, false, false, false, false] rfl rfl (one_of HT_.out (by kernel_rfl)) (by decide) (fun K hK => ?_)
                refine gq_ Try.func31 (by kernel_rfl) rfl #[.slice A1_3 l1_3.length c1_3, .slice Ao195 y787.length co195] (by rfl) rfl rfl ?_
                with_reducible refine (region_Count.calls kj145 _ _ l1_3 _ _ y787 t790 _ ?side1 ?side2 ?side3 ?side4 A161.out).mono ?_
                (case side1 => exact cb_ HR1_3 HB)
                (case side2 => exact HC1_3.out)
                (case side3 => repeat (first | exact (Kd.R_reads' HO789.out).2.2 | (with_reducible refine Kd.C_alloc ?_ _) | (with_reducible refine Kd.C_drewN ?_ _) | (with_reducible refine Kd.C_drew ?_)))
                (case side4 => exact (Kd.R_reads' HO789.out).2.1)
                rintro e w196 ⟨rfl, hb⟩
                refine ⟨_, rfl, ?_⟩
                have n0_ := Aside0.mk (Kd.R_below (by (with_reducible repeat (first | apply Kd.R_alloc | apply Kd.R_drewN | apply Kd.R_drew)); exact HO_782003.out) hb)
                have n1_ := Aside0.mk (Kd.R_below (by (with_reducible repeat (first | apply Kd.R_alloc | apply Kd.R_drewN | apply Kd.R_drew)); exact HO789.out) hb)
                have n2_ := bb_ BK749 hb
                have n3_ := bb_ BK750 hb
                have n4_ := bb_ BK758 hb
                have n5_ := bb_ BK781 hb
                have n6_ := bb_ BK785 hb
                have n7_ := bs_ HB hb
                clear HO_782003
                clear HO789
                clear BK749
                clear BK750
                clear BK758
                clear BK781
                clear BK785
                clear HB
                have HO_782003 := n0_
                have HO789 := n1_
                have BK749 := n2_
                have BK750 := n3_
                have BK758 := n4_
                have BK781 := n5_
                have BK785 := n6_
                have HB := n7_
                clear n0_ n1_ n2_ n3_ n4_ n5_ n6_ n7_
                (try clear hb)
                (try clear hb2)
                (try clear hk)
                (try clear hi)
                refine hK.out _ _ ⟨(blk_cell BK758.out 0).trans rfl, (blk_cell BK758.out 1).trans rfl, (blk_cell BK758.out 2).trans rfl, (blk_cell BK781.out 0).trans rfl, (blk_cell BK781.out 1).trans rfl, (blk_cell BK781.out 2).trans rfl, (blk_cell BK781.out 3).trans rfl, (blk_cell BK785.out 0).trans rfl, (blk_cell BK785.out 1).trans rfl, (blk_cell BK785.out 2).trans rfl, (blk_cell BK750.out 0).trans rfl, (blk_cell BK750.out 1).trans rfl, (blk_cell BK750.out 2).trans rfl, (blk_cell BK750.out 3).trans rfl, (blk_cell BK749.out 0).trans rfl, (blk_cell BK749.out 1).trans rfl, (blk_cell BK749.out 2).trans rfl⟩ (fun hHeld => ?_)
                clear hK K
                refine norm_ (a' := ?_) ?_ ?_
                rotate_left
                ·show Act.put _ (some 103) _ = _
                 simp only [Act.put, List.setIfInBounds_toArray, List.set_cons_zero, List.set_cons_succ, i64_w, i32_w]
                 rfl
                refine one_ (i := 25) (N := some 106) #[true, true, true, true, true, true, true, true, true, true, true, true, true, true, true, true, true, true, true, true, true, true, true, true, true, true, false, false, false, false, false, false, false, false, false, false, false, false, false, false, false, false, false, false, false, false, false, false] rfl rfl (one_of HT_.out (by kernel_rfl)) (by decide) (fun K hK => ?_)
                refine gq_ Try.func19 (by kernel_rfl) rfl #[.slice A1_3 l1_3.length c1_3] (by rfl) rfl rfl ?_
                with_reducible refine (region_End.calls kj145 _ _ l1_3 t791 _ ?side1 ?side2 A162.out).mono ?_
                (case side1 => exact cb_ HR1_3 HB)
                (case side2 => exact HC1_3.out)
                rintro e w197 ⟨rfl, hb⟩
                refine ⟨_, rfl, ?_⟩
                have n0_ := Aside0.mk (Kd.R_below (by (with_reducible repeat (first | apply Kd.R_alloc | apply Kd.R_drewN | apply Kd.R_drew)); exact HO_782003.out) hb)
                have n1_ := Aside0.mk (Kd.R_below (by (with_reducible repeat (first | apply Kd.R_alloc | apply Kd.R_drewN | apply Kd.R_drew)); exact HO789.out) hb)
                have n2_ := bb_ BK749 hb
                have n3_ := bb_ BK750 hb
                have n4_ := bb_ BK758 hb
                have n5_ := bb_ BK781 hb
                have n6_ := bb_ BK785 hb
                have n7_ := bs_ HB hb
                clear HO_782003
                clear HO789
                clear BK749
                clear BK750
                clear BK758
                clear BK781
                clear BK785
                clear HB
                have HO_782003 := n0_
                have HO789 := n1_
                have BK749 := n2_
                have BK750 := n3_
                have BK758 := n4_
                have BK781 := n5_
                have BK785 := n6_
                have HB := n7_
                clear n0_ n1_ n2_ n3_ n4_ n5_ n6_ n7_
                (try clear hb)
                (try clear hb2)
                (try clear hk)
                (try clear hi)
                refine hK.out _ _ ⟨(blk_cell BK758.out 0).trans rfl, (blk_cell BK758.out 1).trans rfl, (blk_cell BK758.out 2).trans rfl, (blk_cell BK781.out 0).trans rfl, (blk_cell BK781.out 1).trans rfl, (blk_cell BK781.out 2).trans rfl, (blk_cell BK781.out 3).trans rfl, (blk_cell BK785.out 0).trans rfl, (blk_cell BK785.out 1).trans rfl, (blk_cell BK785.out 2).trans rfl, (blk_cell BK750.out 0).trans rfl, (blk_cell BK750.out 1).trans rfl, (blk_cell BK750.out 2).trans rfl, (blk_cell BK750.out 3).trans rfl, (blk_cell BK749.out 0).trans rfl, (blk_cell BK749.out 1).trans rfl, (blk_cell BK749.out 2).trans rfl⟩ (fun hHeld => ?_)
                clear hK K
                refine norm_ (a' := ?_) ?_ ?_
                rotate_left
                ·show Act.put _ (some 106) _ = _
                 simp only [Act.put, List.setIfInBounds_toArray, List.set_cons_zero, List.set_cons_succ, i64_w, i32_w]
                 rfl
                refine pu_ 26 107 (lb_ 48 134217727) rfl rfl (any_of HT_.out (by kernel_rfl)) ?_
                refine pu_ 27 108 (lb_ 48 268435455) rfl rfl (any_of HT_.out (by kernel_rfl)) ?_
                refine pu_ 28 109 (lb_ 48 536870911) rfl rfl (any_of HT_.out (by kernel_rfl)) ?_
                refine take_ (i := 29) (N := some 110) (v := ?_) (a' := ?_) #[true, true, true, true, true, true, true, true, true, true, true, true, true, true, true, true, true, true, true, true, true, true, true, true, true, true, true, true, true, true, false, false, false, false, false, false, false, false, false, false, false, false, false, false, false, false, false, false] rfl rfl (take_ofW HT_.out HW_.out (by kernel_rfl)) (fun _ _ _ h => h) (Or.inl ⟨by rfl, ?_⟩) hHeld ?_ ?_
                rotate_left
                ·rintro w' ⟨s0, s1, s2, s3, s4, s5, s6, s7, s8, s9, s10, s11, s12, s13, s14, s15, s16⟩
                 go_simp
                 with_reducible rfl
                rotate_left
                ·simp only [Act.put, List.setIfInBounds_toArray, List.set_cons_zero, List.set_cons_succ, i64_w, i32_w]
                 rfl
                refine pu_ 30 111 (lb_ 48 2147483647) rfl rfl (any_of HT_.out (by kernel_rfl)) ?_
                refine pu_ 31 112 (lb_ 48 4294967295) rfl rfl (any_of HT_.out (by kernel_rfl)) ?_
                refine pd_ 32 113 (lb_ 48 8589934591) rfl rfl (any_of HT_.out (by kernel_rfl)) ?_
                refine pd_ 33 114 (lb_ 48 17179869183) rfl rfl (any_of HT_.out (by kernel_rfl)) ?_
                refine pd_ 34 115 (lb_ 48 34359738367) rfl rfl (any_of HT_.out (by kernel_rfl)) ?_
                refine pd_ 35 116 (lb_ 48 68719476735) rfl rfl (any_of HT_.out (by kernel_rfl)) ?_
                refine pd_ 36 117 (lb_ 48 137438953471) rfl rfl (any_of HT_.out (by kernel_rfl)) ?_
                refine pd_ 37 118 (lb_ 48 274877906943) rfl rfl (any_of HT_.out (by kernel_rfl)) ?_
                refine pd_ 38 119 (lb_ 48 549755813887) rfl rfl (any_of HT_.out (by kernel_rfl)) ?_
                refine pd_ 39 120 (lb_ 48 1099511627775) rfl rfl (any_of HT_.out (by kernel_rfl)) ?_
                refine pu_ 40 121 (lb_ 48 2199023255551) rfl rfl (any_of HT_.out (by kernel_rfl)) ?_
                refine pu_ 41 122 (lb_ 48 4398046511103) rfl rfl (any_of HT_.out (by kernel_rfl)) ?_
                refine pu_ 42 123 (lb_ 48 8796093022207) rfl rfl (any_of HT_.out (by kernel_rfl)) ?_
                refine pu_ 43 124 (lb_ 48 17592186044415) rfl rfl (any_of HT_.out (by kernel_rfl)) ?_
                refine pu_ 44 125 (lb_ 48 35184372088831) rfl rfl (any_of HT_.out (by kernel_rfl)) ?_
                refine one_ (i := 45) (N := some 126) #[true, true, true, true, true, true, true, true, true, true, true, true, true, true, true, true, true, true, true, true, true, true, true, true, true, true, true, true, true, true, true, true, true, true, true, true, true, true, true, true, true, true, true, true, true, true, false, false] rfl rfl (one_of HT_.out (by kernel_rfl)) (by decide) (fun K hK => ?_)
                refine gq_ Try.func3 (by kernel_rfl) rfl #[] (by rfl) rfl rfl ?_
                with_reducible refine (salvorlaw18_PlanRuns.calls kj145  t799 _ A191.out).mono ?_
                rintro e w198 ⟨rfl, hb⟩
                refine ⟨_, rfl, ?_⟩
                have n0_ := Aside0.mk (Kd.R_below (by (with_reducible repeat (first | apply Kd.R_alloc | apply Kd.R_drewN | apply Kd.R_drew)); exact HO_782003.out) hb)
                have n1_ := Aside0.mk (Kd.R_below (by (with_reducible repeat (first | apply Kd.R_alloc | apply Kd.R_drewN | apply Kd.R_drew)); exact HO789.out) hb)
                have n2_ := bb_ BK749 hb
                have n3_ := bb_ BK750 hb
                have n4_ := bb_ BK758 hb
                have n5_ := bb_ BK781 hb
                have n6_ := bb_ BK785 hb
                have n7_ := bs_ HB hb
                clear HO_782003
                clear HO789
                clear BK749
                clear BK750
                clear BK758
                clear BK781
                clear BK785
                clear HB
                have HO_782003 := n0_
                have HO789 := n1_
                have BK749 := n2_
                have BK750 := n3_
                have BK758 := n4_
                have BK781 := n5_
                have BK785 := n6_
                have HB := n7_
                clear n0_ n1_ n2_ n3_ n4_ n5_ n6_ n7_
                (try clear hb)
                (try clear hb2)
                (try clear hk)
                (try clear hi)
                refine hK.out _ _ ⟨(blk_cell BK758.out 0).trans rfl, (blk_cell BK758.out 1).trans rfl, (blk_cell BK758.out 2).trans rfl, (blk_cell BK781.out 0).trans rfl, (blk_cell BK781.out 1).trans rfl, (blk_cell BK781.out 2).trans rfl, (blk_cell BK781.out 3).trans rfl, (blk_cell BK785.out 0).trans rfl, (blk_cell BK785.out 1).trans rfl, (blk_cell BK785.out 2).trans rfl, (blk_cell BK750.out 0).trans rfl, (blk_cell BK750.out 1).trans rfl, (blk_cell BK750.out 2).trans rfl, (blk_cell BK750.out 3).trans rfl, (blk_cell BK749.out 0).trans rfl, (blk_cell BK749.out 1).trans rfl, (blk_cell BK749.out 2).trans rfl⟩ (fun hHeld => ?_)
                clear hK K
                refine norm_ (a' := ?_) ?_ ?_
                rotate_left
                ·show Act.put _ (some 126) _ = _
                 simp only [Act.put, List.setIfInBounds_toArray, List.set_cons_zero, List.set_cons_succ, i64_w, i32_w]
                 rfl
                refine pu_ 46 127 (lb_ 48 140737488355327) rfl rfl (any_of HT_.out (by kernel_rfl)) ?_
                refine pu_ 47 4 (lb_ 48 281474976710655) rfl rfl (any_of HT_.out (by kernel_rfl)) ?_
                refine done_ (done_of HT_.out (by kernel_rfl)) ?_
                try go_wp2
                go_ret
                exact ⟨by first | rfl | (simp [errW_none, errW_some] <;> rfl) | (simp [*, errW_none, errW_some] <;> rfl), bh_ HB⟩
               ·rw [if_neg c190] at H
                have c190b0 : ((t782 == 0) == false) = false := by simpa using c190
                (try (have c190b1 : decide ((t782 == 0) = false) = false := by simpa using c190))
                (try (have c190b2 : ((t782 == 0) == false) = false := by simpa using c190))
                (try (have c190b3 : ¬ ((t782 == 0) = false) := by simpa using c190))
                clear c190
                exact absurd ((Option.some.inj H).trans HT.out) (by simp)
            ·rw [if_neg c160] at H
             have c160b0 : (t776 == 0) = false := beq_eq_false_iff_ne.mpr c160
             have c160b1 : (t776 != 0) = true := bne_iff_ne.mpr c160
             exact absurd ((Option.some.inj H).trans HT.out) (by simp)
           ·rw [if_neg c159] at H
            have c159b0 : (t777 == t786) = false := beq_eq_false_iff_ne.mpr c159
            have c159b1 : (t777 != t786) = true := bne_iff_ne.mpr c159
            exact absurd ((Option.some.inj H).trans HT.out) (by simp)
          ·rw [if_neg c158] at H
           have c158b0 : (t755 == x6_145) = false := beq_eq_false_iff_ne.mpr c158
           have c158b1 : (t755 != x6_145) = true := bne_iff_ne.mpr c158
           exact absurd ((Option.some.inj H).trans HT.out) (by simp)

end Go.Proofs.Ytnoilinjlelpaaa.P
