/- Laid by a program of this session's own (wip/wprint.py, over the kit's print.py): functions of the given program as plain Lean functions, and that the program's calls come to their answers. -/
import Derived.Test.YtnoilinjlelpaaaPx0
import Derived.Test.YtnoilinjlelpaaaPx1
import Derived.Test.YtnoilinjlelpaaaPx3
import Derived.Test.YtnoilinjlelpaaaPx12
import Derived.Test.YtnoilinjlelpaaaPx19
import Derived.Test.YtnoilinjlelpaaaPx20
import Derived.Test.YtnoilinjlelpaaaPx33
import Derived.Test.YtnoilinjlelpaaaPx40
import Derived.Test.YtnoilinjlelpaaaPx41
namespace Go.Proofs.Ytnoilinjlelpaaa.P
open Go.RowKit Go.Proofs.YtnoilinjlelpaaaW.PrintWords Go.Proofs.YtnoilinjlelpaaaW.PrintLast Go.Proofs.YtnoilinjlelpaaaW.PrintMore
attribute [local go_sem] max2_int min2_int max_two min_two max_three min_three max_four min_four   -- for this text's walks alone
set_option linter.unusedVariables false
set_option linter.unusedSimpArgs false

attribute [local go_sem high] eqA29
/-! ### salvorlaw18_PlanNext: function 7 -/
def salvorlaw18_PlanNext.f (k : Nat) (a0_0 : Int) (a0_1 : Int) (a0_2 : Bool) (a1_0 : Int) (a1_1 : Int) (a1_2 : Int) (l1_3 : List (S33)) (a2 : Int) : Option (Bool) := (salvorlaw16_Few.f l1_3).bind fun t663 => (if t663 = true then ((plan_May.f a0_0 a0_1 a0_2).bind fun t665 => ((salvorref16_MayOpts.f a0_0 a0_1 a0_2).bind fun t666 => (if (t665 == t666) = true then ((plan_Next.f k a0_0 a0_1 a0_2 a1_0 a1_1 a1_2 l1_3).bind fun bt667 => ((salvorref16_Next.f k a0_0 a0_1 a0_2 a1_0 a1_1 a1_2 l1_3).bind fun bt670 => (if (bt667.1 == bt670.1 && (bt667.2.1 == bt670.2.1 && (bt667.2.2 == bt670.2.2))) = true then ((plan_Start.f a2).bind fun bt673 => ((salvorref16_Start.f a2).bind fun bt679 => ((salvorref16_SameMap.f k bt673.1 bt673.2.1 bt673.2.2.1 bt673.2.2.2 bt679.1 bt679.2.1 bt679.2.2.1 bt679.2.2.2).bind fun t685 => (if t685 = true then ((plan_Begin.f k a0_0 a0_1 a0_2 a1_0 a1_1 a1_2 l1_3).bind fun bt686 => ((salvorref16_Begin.f k a0_0 a0_1 a0_2 a1_0 a1_1 a1_2 l1_3).bind fun bt692 => ((salvorref16_SameMap.f k bt686.1 bt686.2.1 bt686.2.2.1 bt686.2.2.2 bt692.1 bt692.2.1 bt692.2.2.1 bt692.2.2.2).bind fun t698 => (if t698 = true then ((salvorlaw18_PlanRuns.f k).bind fun t699 => (some t699)) else (some false))))) else (some false))))) else (some false)))) else (some false)))) else ((salvorlaw18_PlanRuns.f k).bind fun t664 => (some t664)))
theorem salvorlaw18_PlanNext.mono : ∀ a0 a1 a2 a3 a4 a5 a6 a7 k, LeO (salvorlaw18_PlanNext.f k a0 a1 a2 a3 a4 a5 a6 a7) (salvorlaw18_PlanNext.f (k + 1) a0 a1 a2 a3 a4 a5 a6 a7) := by
 intro a0 a1 a2 a3 a4 a5 a6 a7 k
 unfold salvorlaw18_PlanNext.f
 repeat' first
   | (with_reducible exact plan_Begin.mono _ _ _ _ _ _ _ _)
   | (with_reducible exact plan_Next.mono _ _ _ _ _ _ _ _)
   | (with_reducible exact salvorlaw18_PlanRuns.mono _)
   | (with_reducible exact salvorref16_Begin.mono _ _ _ _ _ _ _ _)
   | (with_reducible exact salvorref16_Next.mono _ _ _ _ _ _ _ _)
   | (with_reducible exact salvorref16_SameMap.mono _ _ _ _ _ _ _ _ _)
   | (with_reducible exact LeO.refl _)
   | (with_reducible exact LeO.none _)
   | (with_reducible refine LeO.ite ?_ ?_)
   | (with_reducible refine LeO.bind ?_ (fun _ => ?_))
   | exact plan_Begin.mono _ _ _ _ _ _ _ _
   | exact plan_Next.mono _ _ _ _ _ _ _ _
   | exact salvorlaw18_PlanRuns.mono _
   | exact salvorref16_Begin.mono _ _ _ _ _ _ _ _
   | exact salvorref16_Next.mono _ _ _ _ _ _ _ _
   | exact salvorref16_SameMap.mono _ _ _ _ _ _ _ _ _
   | exact LeO.none _
   | refine LeO.ite ?_ ?_
   | refine LeO.bind ?_ (fun _ => ?_)
def salvorlaw18_PlanNext.T3 : Bool × List (List Nat × List Nat) := (true, [([], []), ([0], [0]), ([], []), ([2, 1], [2]), ([1, 3], [1, 3]), ([4, 3], [4]), ([5], [5]), ([5], [5]), ([6, 7, 5, 5], [5, 6, 7]), ([5], [5]), ([5], [5]), ([9, 10, 8, 5], [5, 9, 10]), ([8, 11, 5], [5, 8, 11]), ([5, 12], [5, 12]), ([13, 11], [13]), ([14], [14]), ([15, 14, 14], [14, 15]), ([14], [14]), ([17, 16, 14], [14, 17]), ([16, 18, 18, 14], [14, 16, 18]), ([14, 19], [14, 19]), ([20, 19], [20]), ([21], [21]), ([21], [21]), ([22, 23, 21, 21], [21, 22, 23]), ([21], [21]), ([21], [21]), ([25, 26, 24, 21], [21, 25, 26]), ([24, 27, 27, 21], [21, 24, 27]), ([21, 28], [21, 28]), ([29, 28], [29]), ([30, 30], [30]), ([30, 31], [30, 31]), ([32, 31, 0, 1, 2, 3, 4, 5, 6, 7, 8, 9, 10, 11, 12, 13, 14, 15, 16, 17, 18, 19, 20, 21, 22, 23, 24, 25, 26, 27, 28, 29, 30, 31, 32], [32])])
def salvorlaw18_PlanNext.B3 : List Nat := [0, 1, 0, 7, 15, 31, 63, 63, 255, 63, 63, 2047, 4095, 8191, 16383, 32767, 65535, 32767, 262143, 524287, 1048575, 2097151, 4194303, 4194303, 16777215, 4194303, 4194303, 134217727, 268435455, 536870911, 1073741823, 2147483647, 4294967295, 8589934591]
theorem salvorlaw18_PlanNext.tab3 : rtab .any (opsOf Try.f7 3) = salvorlaw18_PlanNext.T3 := by kernel_rfl
theorem salvorlaw18_PlanNext.bits3 : waitsOk salvorlaw18_PlanNext.T3.2 salvorlaw18_PlanNext.B3 = true := by kernel_rfl
set_option maxHeartbeats 8000000 in
set_option maxRecDepth 100000 in
theorem salvorlaw18_PlanNext.calls (k : Nat) (a0_0 : Int) (a0_1 : Int) (a0_2 : Bool) (a1_0 : Int) (a1_1 : Int) (a1_2 : Int) (A1_3 : Option Addr) (c1_3 : Nat) (l1_3 : List (S33)) (a2 : Int) (r : Bool) (w : World) (hr1_3 : Kd.C k33 w A1_3 l1_3.length l1_3) (hc1_3 : l1_3.length ≤ c1_3) (h : salvorlaw18_PlanNext.f k a0_0 a0_1 a0_2 a1_0 a1_1 a1_2 l1_3 a2 = some r) (hrt : r = true) :
  Calls Try.prog 7 #[.agg #[.int .i64 a0_0, .int .i64 a0_1, .bool a0_2], .agg #[.int .i64 a1_0, .int .i64 a1_1, .int .u8 a1_2, .slice A1_3 l1_3.length c1_3], .int .i64 a2] w fun e w' => e = .returned (.bool r) ∧ Below w.heap.size w w' := by
 have HT := Aside0.mk hrt
 clear hrt
 have hu23 := Try.underlying23
 have hu26 := Try.underlying26
 have HR1_3 := Aside0.mk hr1_3
 have HC1_3 := Aside0.mk hc1_3
 clear hr1_3 hc1_3
 have HB := Aside0.mk (Below.refl w.heap.size w)
 have H : ((salvorlaw16_Few.f l1_3).bind fun t663 => (if t663 = true then ((plan_May.f a0_0 a0_1 a0_2).bind fun t665 => ((salvorref16_MayOpts.f a0_0 a0_1 a0_2).bind fun t666 => (if (t665 == t666) = true then ((plan_Next.f k a0_0 a0_1 a0_2 a1_0 a1_1 a1_2 l1_3).bind fun bt667 => ((salvorref16_Next.f k a0_0 a0_1 a0_2 a1_0 a1_1 a1_2 l1_3).bind fun bt670 => (if (bt667.1 == bt670.1 && (bt667.2.1 == bt670.2.1 && (bt667.2.2 == bt670.2.2))) = true then ((plan_Start.f a2).bind fun bt673 => ((salvorref16_Start.f a2).bind fun bt679 => ((salvorref16_SameMap.f k bt673.1 bt673.2.1 bt673.2.2.1 bt673.2.2.2 bt679.1 bt679.2.1 bt679.2.2.1 bt679.2.2.2).bind fun t685 => (if t685 = true then ((plan_Begin.f k a0_0 a0_1 a0_2 a1_0 a1_1 a1_2 l1_3).bind fun bt686 => ((salvorref16_Begin.f k a0_0 a0_1 a0_2 a1_0 a1_1 a1_2 l1_3).bind fun bt692 => ((salvorref16_SameMap.f k bt686.1 bt686.2.1 bt686.2.2.1 bt686.2.2.2 bt692.1 bt692.2.1 bt692.2.2.1 bt692.2.2.2).bind fun t698 => (if t698 = true then ((salvorlaw18_PlanRuns.f k).bind fun t699 => (some t699)) else (some false))))) else (some false))))) else (some false)))) else (some false)))) else ((salvorlaw18_PlanRuns.f k).bind fun t664 => (some t664)))) = some r := h
 clear h
 replace H := Option.bind_eq_some_iff.mp H
 obtain ⟨t663, A40, H⟩ := H
 replace H : (if t663 = true then ((plan_May.f a0_0 a0_1 a0_2).bind fun t665 => ((salvorref16_MayOpts.f a0_0 a0_1 a0_2).bind fun t666 => (if (t665 == t666) = true then ((plan_Next.f k a0_0 a0_1 a0_2 a1_0 a1_1 a1_2 l1_3).bind fun bt667 => ((salvorref16_Next.f k a0_0 a0_1 a0_2 a1_0 a1_1 a1_2 l1_3).bind fun bt670 => (if (bt667.1 == bt670.1 && (bt667.2.1 == bt670.2.1 && (bt667.2.2 == bt670.2.2))) = true then ((plan_Start.f a2).bind fun bt673 => ((salvorref16_Start.f a2).bind fun bt679 => ((salvorref16_SameMap.f k bt673.1 bt673.2.1 bt673.2.2.1 bt673.2.2.2 bt679.1 bt679.2.1 bt679.2.2.1 bt679.2.2.2).bind fun t685 => (if t685 = true then ((plan_Begin.f k a0_0 a0_1 a0_2 a1_0 a1_1 a1_2 l1_3).bind fun bt686 => ((salvorref16_Begin.f k a0_0 a0_1 a0_2 a1_0 a1_1 a1_2 l1_3).bind fun bt692 => ((salvorref16_SameMap.f k bt686.1 bt686.2.1 bt686.2.2.1 bt686.2.2.2 bt692.1 bt692.2.1 bt692.2.2.1 bt692.2.2.2).bind fun t698 => (if t698 = true then ((salvorlaw18_PlanRuns.f k).bind fun t699 => (some t699)) else (some false))))) else (some false))))) else (some false)))) else (some false)))) else ((salvorlaw18_PlanRuns.f k).bind fun t664 => (some t664))) = some r := H
 have A4 := Aside0.mk A40
 clear A40
 by_cases c5 : t663 = true
 ·subst c5
  have H1 : ((plan_May.f a0_0 a0_1 a0_2).bind fun t665 => ((salvorref16_MayOpts.f a0_0 a0_1 a0_2).bind fun t666 => (if (t665 == t666) = true then ((plan_Next.f k a0_0 a0_1 a0_2 a1_0 a1_1 a1_2 l1_3).bind fun bt667 => ((salvorref16_Next.f k a0_0 a0_1 a0_2 a1_0 a1_1 a1_2 l1_3).bind fun bt670 => (if (bt667.1 == bt670.1 && (bt667.2.1 == bt670.2.1 && (bt667.2.2 == bt670.2.2))) = true then ((plan_Start.f a2).bind fun bt673 => ((salvorref16_Start.f a2).bind fun bt679 => ((salvorref16_SameMap.f k bt673.1 bt673.2.1 bt673.2.2.1 bt673.2.2.2 bt679.1 bt679.2.1 bt679.2.2.1 bt679.2.2.2).bind fun t685 => (if t685 = true then ((plan_Begin.f k a0_0 a0_1 a0_2 a1_0 a1_1 a1_2 l1_3).bind fun bt686 => ((salvorref16_Begin.f k a0_0 a0_1 a0_2 a1_0 a1_1 a1_2 l1_3).bind fun bt692 => ((salvorref16_SameMap.f k bt686.1 bt686.2.1 bt686.2.2.1 bt686.2.2.2 bt692.1 bt692.2.1 bt692.2.2.1 bt692.2.2.2).bind fun t698 => (if t698 = true then ((salvorlaw18_PlanRuns.f k).bind fun t699 => (some t699)) else (some false))))) else (some false))))) else (some false)))) else (some false)))) = some r := by rw [if_pos rfl] at H; exact H
  clear H
  have H := H1
  clear H1
  replace H := Option.bind_eq_some_iff.mp H
  obtain ⟨t665, A60, H⟩ := H
  replace H : ((salvorref16_MayOpts.f a0_0 a0_1 a0_2).bind fun t666 => (if (t665 == t666) = true then ((plan_Next.f k a0_0 a0_1 a0_2 a1_0 a1_1 a1_2 l1_3).bind fun bt667 => ((salvorref16_Next.f k a0_0 a0_1 a0_2 a1_0 a1_1 a1_2 l1_3).bind fun bt670 => (if (bt667.1 == bt670.1 && (bt667.2.1 == bt670.2.1 && (bt667.2.2 == bt670.2.2))) = true then ((plan_Start.f a2).bind fun bt673 => ((salvorref16_Start.f a2).bind fun bt679 => ((salvorref16_SameMap.f k bt673.1 bt673.2.1 bt673.2.2.1 bt673.2.2.2 bt679.1 bt679.2.1 bt679.2.2.1 bt679.2.2.2).bind fun t685 => (if t685 = true then ((plan_Begin.f k a0_0 a0_1 a0_2 a1_0 a1_1 a1_2 l1_3).bind fun bt686 => ((salvorref16_Begin.f k a0_0 a0_1 a0_2 a1_0 a1_1 a1_2 l1_3).bind fun bt692 => ((salvorref16_SameMap.f k bt686.1 bt686.2.1 bt686.2.2.1 bt686.2.2.2 bt692.1 bt692.2.1 bt692.2.2.1 bt692.2.2.2).bind fun t698 => (if t698 = true then ((salvorlaw18_PlanRuns.f k).bind fun t699 => (some t699)) else (some false))))) else (some false))))) else (some false)))) else (some false))) = some r := H
  have A6 := Aside0.mk A60
  clear A60
  replace H := Option.bind_eq_some_iff.mp H
  obtain ⟨t666, A70, H⟩ := H
  replace H : (if (t665 == t666) = true then ((plan_Next.f k a0_0 a0_1 a0_2 a1_0 a1_1 a1_2 l1_3).bind fun bt667 => ((salvorref16_Next.f k a0_0 a0_1 a0_2 a1_0 a1_1 a1_2 l1_3).bind fun bt670 => (if (bt667.1 == bt670.1 && (bt667.2.1 == bt670.2.1 && (bt667.2.2 == bt670.2.2))) = true then ((plan_Start.f a2).bind fun bt673 => ((salvorref16_Start.f a2).bind fun bt679 => ((salvorref16_SameMap.f k bt673.1 bt673.2.1 bt673.2.2.1 bt673.2.2.2 bt679.1 bt679.2.1 bt679.2.2.1 bt679.2.2.2).bind fun t685 => (if t685 = true then ((plan_Begin.f k a0_0 a0_1 a0_2 a1_0 a1_1 a1_2 l1_3).bind fun bt686 => ((salvorref16_Begin.f k a0_0 a0_1 a0_2 a1_0 a1_1 a1_2 l1_3).bind fun bt692 => ((salvorref16_SameMap.f k bt686.1 bt686.2.1 bt686.2.2.1 bt686.2.2.2 bt692.1 bt692.2.1 bt692.2.2.1 bt692.2.2.2).bind fun t698 => (if t698 = true then ((salvorlaw18_PlanRuns.f k).bind fun t699 => (some t699)) else (some false))))) else (some false))))) else (some false)))) else (some false)) = some r := H
  have A7 := Aside0.mk A70
  clear A70
  by_cases c8 : (t665 == t666) = true
  ·rw [if_pos c8] at H
   have c8b0 : (t665 == t666) = true := c8
   (try (have c8b1 : decide (t665 = t666) = true := by simpa using c8))
   (try (have c8b2 : (t665 == t666) = true := by simpa using c8))
   clear c8
   replace H := Option.bind_eq_some_iff.mp H
   obtain ⟨⟨t667, t668, t669⟩, A90, H⟩ := H
   replace H : ((salvorref16_Next.f k a0_0 a0_1 a0_2 a1_0 a1_1 a1_2 l1_3).bind fun bt670 => (if (t667 == bt670.1 && (t668 == bt670.2.1 && (t669 == bt670.2.2))) = true then ((plan_Start.f a2).bind fun bt673 => ((salvorref16_Start.f a2).bind fun bt679 => ((salvorref16_SameMap.f k bt673.1 bt673.2.1 bt673.2.2.1 bt673.2.2.2 bt679.1 bt679.2.1 bt679.2.2.1 bt679.2.2.2).bind fun t685 => (if t685 = true then ((plan_Begin.f k a0_0 a0_1 a0_2 a1_0 a1_1 a1_2 l1_3).bind fun bt686 => ((salvorref16_Begin.f k a0_0 a0_1 a0_2 a1_0 a1_1 a1_2 l1_3).bind fun bt692 => ((salvorref16_SameMap.f k bt686.1 bt686.2.1 bt686.2.2.1 bt686.2.2.2 bt692.1 bt692.2.1 bt692.2.2.1 bt692.2.2.2).bind fun t698 => (if t698 = true then ((salvorlaw18_PlanRuns.f k).bind fun t699 => (some t699)) else (some false))))) else (some false))))) else (some false))) = some r := H
   have A9 := Aside0.mk A90
   clear A90
   replace H := Option.bind_eq_some_iff.mp H
   obtain ⟨⟨t670, t671, t672⟩, A100, H⟩ := H
   replace H : (if (t667 == t670 && (t668 == t671 && (t669 == t672))) = true then ((plan_Start.f a2).bind fun bt673 => ((salvorref16_Start.f a2).bind fun bt679 => ((salvorref16_SameMap.f k bt673.1 bt673.2.1 bt673.2.2.1 bt673.2.2.2 bt679.1 bt679.2.1 bt679.2.2.1 bt679.2.2.2).bind fun t685 => (if t685 = true then ((plan_Begin.f k a0_0 a0_1 a0_2 a1_0 a1_1 a1_2 l1_3).bind fun bt686 => ((salvorref16_Begin.f k a0_0 a0_1 a0_2 a1_0 a1_1 a1_2 l1_3).bind fun bt692 => ((salvorref16_SameMap.f k bt686.1 bt686.2.1 bt686.2.2.1 bt686.2.2.2 bt692.1 bt692.2.1 bt692.2.2.1 bt692.2.2.2).bind fun t698 => (if t698 = true then ((salvorlaw18_PlanRuns.f k).bind fun t699 => (some t699)) else (some false))))) else (some false))))) else (some false)) = some r := H
   have A10 := Aside0.mk A100
   clear A100
   by_cases c11 : (t667 == t670 && (t668 == t671 && (t669 == t672))) = true
   ·rw [if_pos c11] at H
    have c11b0 : (t667 == t670 && (t668 == t671 && (t669 == t672))) = true := c11
    (try (have c11b1 : decide (t667 = t670 && (t668 == t671 && (t669 == t672))) = true := by simpa using c11))
    (try (have c11b2 : (t667 == t670 && (t668 == t671 && (t669 == t672))) = true := by simpa using c11))
    clear c11
    replace H := Option.bind_eq_some_iff.mp H
    obtain ⟨⟨t673, t674, t675, t676⟩, A120, H⟩ := H
    replace H : ((salvorref16_Start.f a2).bind fun bt679 => ((salvorref16_SameMap.f k t673 t674 t675 t676 bt679.1 bt679.2.1 bt679.2.2.1 bt679.2.2.2).bind fun t685 => (if t685 = true then ((plan_Begin.f k a0_0 a0_1 a0_2 a1_0 a1_1 a1_2 l1_3).bind fun bt686 => ((salvorref16_Begin.f k a0_0 a0_1 a0_2 a1_0 a1_1 a1_2 l1_3).bind fun bt692 => ((salvorref16_SameMap.f k bt686.1 bt686.2.1 bt686.2.2.1 bt686.2.2.2 bt692.1 bt692.2.1 bt692.2.2.1 bt692.2.2.2).bind fun t698 => (if t698 = true then ((salvorlaw18_PlanRuns.f k).bind fun t699 => (some t699)) else (some false))))) else (some false)))) = some r := H
    have A12 := Aside0.mk A120
    clear A120
    replace H := Option.bind_eq_some_iff.mp H
    obtain ⟨⟨t679, t680, t681, t682⟩, A130, H⟩ := H
    replace H : ((salvorref16_SameMap.f k t673 t674 t675 t676 t679 t680 t681 t682).bind fun t685 => (if t685 = true then ((plan_Begin.f k a0_0 a0_1 a0_2 a1_0 a1_1 a1_2 l1_3).bind fun bt686 => ((salvorref16_Begin.f k a0_0 a0_1 a0_2 a1_0 a1_1 a1_2 l1_3).bind fun bt692 => ((salvorref16_SameMap.f k bt686.1 bt686.2.1 bt686.2.2.1 bt686.2.2.2 bt692.1 bt692.2.1 bt692.2.2.1 bt692.2.2.2).bind fun t698 => (if t698 = true then ((salvorlaw18_PlanRuns.f k).bind fun t699 => (some t699)) else (some false))))) else (some false))) = some r := H
    have A13 := Aside0.mk A130
    clear A130
    replace H := Option.bind_eq_some_iff.mp H
    obtain ⟨t685, A140, H⟩ := H
    replace H : (if t685 = true then ((plan_Begin.f k a0_0 a0_1 a0_2 a1_0 a1_1 a1_2 l1_3).bind fun bt686 => ((salvorref16_Begin.f k a0_0 a0_1 a0_2 a1_0 a1_1 a1_2 l1_3).bind fun bt692 => ((salvorref16_SameMap.f k bt686.1 bt686.2.1 bt686.2.2.1 bt686.2.2.2 bt692.1 bt692.2.1 bt692.2.2.1 bt692.2.2.2).bind fun t698 => (if t698 = true then ((salvorlaw18_PlanRuns.f k).bind fun t699 => (some t699)) else (some false))))) else (some false)) = some r := H
    have A14 := Aside0.mk A140
    clear A140
    by_cases c15 : t685 = true
    ·subst c15
     have H1 : ((plan_Begin.f k a0_0 a0_1 a0_2 a1_0 a1_1 a1_2 l1_3).bind fun bt686 => ((salvorref16_Begin.f k a0_0 a0_1 a0_2 a1_0 a1_1 a1_2 l1_3).bind fun bt692 => ((salvorref16_SameMap.f k bt686.1 bt686.2.1 bt686.2.2.1 bt686.2.2.2 bt692.1 bt692.2.1 bt692.2.2.1 bt692.2.2.2).bind fun t698 => (if t698 = true then ((salvorlaw18_PlanRuns.f k).bind fun t699 => (some t699)) else (some false))))) = some r := by rw [if_pos rfl] at H; exact H
     clear H
     have H := H1
     clear H1
     replace H := Option.bind_eq_some_iff.mp H
     obtain ⟨⟨t686, t687, t688, t689⟩, A160, H⟩ := H
     replace H : ((salvorref16_Begin.f k a0_0 a0_1 a0_2 a1_0 a1_1 a1_2 l1_3).bind fun bt692 => ((salvorref16_SameMap.f k t686 t687 t688 t689 bt692.1 bt692.2.1 bt692.2.2.1 bt692.2.2.2).bind fun t698 => (if t698 = true then ((salvorlaw18_PlanRuns.f k).bind fun t699 => (some t699)) else (some false)))) = some r := H
     have A16 := Aside0.mk A160
     clear A160
     replace H := Option.bind_eq_some_iff.mp H
     obtain ⟨⟨t692, t693, t694, t695⟩, A170, H⟩ := H
     replace H : ((salvorref16_SameMap.f k t686 t687 t688 t689 t692 t693 t694 t695).bind fun t698 => (if t698 = true then ((salvorlaw18_PlanRuns.f k).bind fun t699 => (some t699)) else (some false))) = some r := H
     have A17 := Aside0.mk A170
     clear A170
     replace H := Option.bind_eq_some_iff.mp H
     obtain ⟨t698, A180, H⟩ := H
     replace H : (if t698 = true then ((salvorlaw18_PlanRuns.f k).bind fun t699 => (some t699)) else (some false)) = some r := H
     have A18 := Aside0.mk A180
     clear A180
     by_cases c19 : t698 = true
     ·subst c19
      have H1 : ((salvorlaw18_PlanRuns.f k).bind fun t699 => (some t699)) = some r := by rw [if_pos rfl] at H; exact H
      clear H
      have H := H1
      clear H1
      replace H := Option.bind_eq_some_iff.mp H
      obtain ⟨t699, A200, H⟩ := H
      replace H : (some t699) = some r := H
      have A20 := Aside0.mk A200
      clear A200
      obtain rfl := Option.some.inj H
      go_enter Try.func7, Try.ntmps7
      try go_wp2_with (first | ((with_reducible refine gate_dst (N := 3) rfl ?_); refine box_e 3 #[.int .i64 a0_0, .int .i64 a0_1, .bool a0_2] 23 ?_; intro gb661 hg w21 hbox hb; have BK661 := Aside0.mk hbox; have GW661 := bg_ HB hg; have GE661 := bg_ HB hg; replace HB := bs_ HB hb; clear hb hbox hg) | ((with_reducible refine gate_dst (N := 4) rfl ?_); refine box_e 4 #[.int .i64 a1_0, .int .i64 a1_1, .int .u8 a1_2, .slice A1_3 l1_3.length c1_3] 26 ?_; intro gb662 hg w22 hbox hb; have BK662 := Aside0.mk hbox; have GW662 := bg_ HB hg; have GE662 := bg_ HB hg; have NB661_662 := bn_ BK661 hg; have NB662_661 := bm_ BK661 hg; replace BK661 := bb_ BK661 hb; replace HB := bs_ HB hb; clear hb hbox hg; have hnb23 := NB662_661.out; have hnc23 := NB661_662.out; obtain ⟨hcz24_0, hcz24_1, hcz24_2, hcz24_3, hfz24_0, hfz24_1, hfz24_2, hfz24_3⟩ := c4_ BK662) | ((with_reducible refine gate_callee (f := 15) rfl ?_); refine gl_ (some 9) rfl rfl Try.func15 (by kernel_rfl) rfl #[.slice A1_3 l1_3.length c1_3] rfl ?_; (with_reducible refine (salvorlaw16_Few.calls _ _ l1_3 true _ ?side1 ?side2 A4.out).mono ?_); (case side1 => exact cb_ HR1_3 HB); (case side2 => exact HC1_3.out); rintro e w' ⟨rfl, ⟨nd, rfl⟩⟩; refine ⟨_, rfl, ?_⟩))
      (try (rw [drewN_self w22]; generalize hq_ : World.drewN w22 _ = w22; have n0_ : Aside0 (w22.heap[gb661]? = some (.cells #[.int .i64 a0_0, .int .i64 a0_1, .bool a0_2] 23 (0, 0))) := ⟨by rw [← hq_]; exact (bq_ BK661)⟩; have n1_ : Aside0 (w22.heap[gb662]? = some (.cells #[.int .i64 a1_0, .int .i64 a1_1, .int .u8 a1_2, .slice A1_3 l1_3.length c1_3] 26 (0, 0))) := ⟨by rw [← hq_]; exact (bq_ BK662)⟩; have n2_ : Aside0 (Below w.heap.size w w22) := ⟨by rw [← hq_]; exact (bh_ HB)⟩; clear BK661 BK662 HB hq_; have BK661 := n0_; have BK662 := n1_; have HB := n2_; clear n0_ n1_ n2_))
      replace BK661 := Aside0.mk (blk_drew BK661.out)
      replace BK662 := Aside0.mk (blk_drew BK662.out)
      replace HB := Aside0.mk (below_drew1 HB.out)
      refine start_ (n := 34) (S := fun w' => w'.cell? ⟨gb661, 0, none⟩ = some (.int .i64 a0_0) ∧ w'.cell? ⟨gb661, 1, none⟩ = some (.int .i64 a0_1) ∧ w'.cell? ⟨gb661, 2, none⟩ = some (.bool a0_2) ∧ w'.cell? ⟨gb662, 0, none⟩ = some (.int .i64 a1_0) ∧ w'.cell? ⟨gb662, 1, none⟩ = some (.int .i64 a1_1) ∧ w'.cell? ⟨gb662, 2, none⟩ = some (.int .u8 a1_2) ∧ w'.cell? ⟨gb662, 3, none⟩ = some (.slice A1_3 l1_3.length c1_3)) (ds := []) #[false, false, false, false, false, false, false, false, false, false, false, false, false, false, false, false, false, false, false, false, false, false, false, false, false, false, false, false, false, false, false, false, false, false] (by kernel_rfl) rfl rfl (a3_ (k3_ BK661) (k4_ BK662)) (fun hHeld => ?_); refine with_tabW salvorlaw18_PlanNext.tab3 salvorlaw18_PlanNext.bits3 (fun HT_ HW_ => ?_)
      generalize w22.drew = w25 at BK661 BK662 HB hHeld ⊢
      refine tk_ 0 12 (lb_ 34 1) rfl rfl (take_ofW HT_.out HW_.out (by kernel_rfl)) hHeld ?_
      refine tk_ 2 14 (lb_ 34 5) rfl rfl (take_ofW HT_.out HW_.out (by kernel_rfl)) hHeld ?_
      refine one_ (i := 1) (N := some 13) #[true, true, true, false, false, false, false, false, false, false, false, false, false, false, false, false, false, false, false, false, false, false, false, false, false, false, false, false, false, false, false, false, false, false] rfl rfl (one_of HT_.out (by kernel_rfl)) (by decide) (fun K hK => ?_)
      refine gq_ Try.func14 (by kernel_rfl) rfl #[.agg #[.int .i64 a0_0, .int .i64 a0_1, .bool a0_2]] (by rfl) rfl rfl ?_
      with_reducible refine (plan_May.calls a0_0 a0_1 a0_2 t665 _ A6.out).mono ?_
      rintro e w26 ⟨rfl, hb⟩
      refine ⟨_, rfl, ?_⟩
      replace BK661 := bb_ BK661 hb
      replace BK662 := bb_ BK662 hb
      replace HB := bs_ HB hb
      (try clear hb)
      refine hK.out _ _ (a3_ (k3_ BK661) (k4_ BK662)) (fun hHeld => ?_)
      clear hK K
      refine nm_ 13 ?_
      refine one_ (i := 3) (N := some 15) #[true, true, true, true, false, false, false, false, false, false, false, false, false, false, false, false, false, false, false, false, false, false, false, false, false, false, false, false, false, false, false, false, false, false] rfl rfl (one_of HT_.out (by kernel_rfl)) (by decide) (fun K hK => ?_)
      refine gq_ Try.func25 (by kernel_rfl) rfl #[.agg #[.int .i64 a0_0, .int .i64 a0_1, .bool a0_2]] (by rfl) rfl rfl ?_
      with_reducible refine (salvorref16_MayOpts.calls a0_0 a0_1 a0_2 t666 _ A7.out).mono ?_
      rintro e w27 ⟨rfl, hb⟩
      refine ⟨_, rfl, ?_⟩
      replace BK661 := bb_ BK661 hb
      replace BK662 := bb_ BK662 hb
      replace HB := bs_ HB hb
      (try clear hb)
      refine hK.out _ _ (a3_ (k3_ BK661) (k4_ BK662)) (fun hHeld => ?_)
      clear hK K
      refine nm_ 15 ?_
      refine pu_ 4 16 (lb_ 34 31) rfl rfl (ao_ HT_) ?_
      refine pu_ 5 17 (lb_ 34 63) rfl rfl (ao_ HT_) ?_
      refine tk_ 6 18 (lb_ 34 127) rfl rfl (take_ofW HT_.out HW_.out (by kernel_rfl)) hHeld ?_
      refine tk_ 7 19 (lb_ 34 255) rfl rfl (take_ofW HT_.out HW_.out (by kernel_rfl)) hHeld ?_
      refine tk_ 9 21 (lb_ 34 767) rfl rfl (take_ofW HT_.out HW_.out (by kernel_rfl)) hHeld ?_
      refine tk_ 10 22 (lb_ 34 1791) rfl rfl (take_ofW HT_.out HW_.out (by kernel_rfl)) hHeld ?_
      refine one_ (i := 8) (N := some 20) #[true, true, true, true, true, true, true, true, true, true, true, false, false, false, false, false, false, false, false, false, false, false, false, false, false, false, false, false, false, false, false, false, false, false] rfl rfl (one_of HT_.out (by kernel_rfl)) (by decide) (fun K hK => ?_)
      refine gq_ Try.func12 (by kernel_rfl) rfl #[.agg #[.int .i64 a0_0, .int .i64 a0_1, .bool a0_2], .agg #[.int .i64 a1_0, .int .i64 a1_1, .int .u8 a1_2, .slice A1_3 l1_3.length c1_3]] (by rfl) rfl rfl ?_
      with_reducible refine (plan_Next.calls k a0_0 a0_1 a0_2 a1_0 a1_1 a1_2 _ _ l1_3 t667 t668 t669 _ ?side1 ?side2 A9.out).mono ?_
      (case side1 => exact cb_ HR1_3 HB)
      (case side2 => exact HC1_3.out)
      rintro e w28 ⟨rfl, hb⟩
      refine ⟨_, rfl, ?_⟩
      replace BK661 := bb_ BK661 hb
      replace BK662 := bb_ BK662 hb
      replace HB := bs_ HB hb
      (try clear hb)
      refine hK.out _ _ (a3_ (k3_ BK661) (k4_ BK662)) (fun hHeld => ?_)
      clear hK K
      refine nm_ 20 ?_
      refine one_ (i := 11) (N := some 23) #[true, true, true, true, true, true, true, true, true, true, true, true, false, false, false, false, false, false, false, false, false, false, false, false, false, false, false, false, false, false, false, false, false, false] rfl rfl (one_of HT_.out (by kernel_rfl)) (by decide) (fun K hK => ?_)
      refine gq_ Try.func26 (by kernel_rfl) rfl #[.agg #[.int .i64 a0_0, .int .i64 a0_1, .bool a0_2], .agg #[.int .i64 a1_0, .int .i64 a1_1, .int .u8 a1_2, .slice A1_3 l1_3.length c1_3]] (by rfl) rfl rfl ?_
      with_reducible refine (salvorref16_Next.calls k a0_0 a0_1 a0_2 a1_0 a1_1 a1_2 _ _ l1_3 t670 t671 t672 _ ?side1 ?side2 A10.out).mono ?_
      (case side1 => exact cb_ HR1_3 HB)
      (case side2 => exact HC1_3.out)
      rintro e w29 ⟨rfl, hb⟩
      refine ⟨_, rfl, ?_⟩
      replace BK661 := bb_ BK661 hb
      replace BK662 := bb_ BK662 hb
      replace HB := bs_ HB hb
      (try clear hb)
      refine hK.out _ _ (a3_ (k3_ BK661) (k4_ BK662)) (fun hHeld => ?_)
      clear hK K
      refine nm_ 23 ?_
      refine pu_ 12 24 (lb_ 34 8191) rfl rfl (ao_ HT_) ?_
      refine pu_ 13 25 (lb_ 34 16383) rfl rfl (ao_ HT_) ?_
      refine pu_ 14 26 (lb_ 34 32767) rfl rfl (ao_ HT_) ?_
      refine pu_ 15 27 (lb_ 34 65535) rfl rfl (ao_ HT_) ?_
      refine pu_ 17 29 (lb_ 34 196607) rfl rfl (ao_ HT_) ?_
      refine one_ (i := 16) (N := some 28) #[true, true, true, true, true, true, true, true, true, true, true, true, true, true, true, true, true, true, false, false, false, false, false, false, false, false, false, false, false, false, false, false, false, false] rfl rfl (one_of HT_.out (by kernel_rfl)) (by decide) (fun K hK => ?_)
      refine gq_ Try.func11 (by kernel_rfl) rfl #[.int .i64 a2] (by rfl) rfl rfl ?_
      with_reducible refine (plan_Start.calls a2 t673 t674 t675 t676 _ A12.out).mono ?_
      rintro e w30 ⟨v677, rfl, ho0, hb⟩
      refine ⟨_, rfl, ?_⟩
      have HO678 := Aside0.mk (Kd.R_lower ho0 (below_size (bh_ HB)))
      replace BK661 := bb_ BK661 hb
      replace BK662 := bb_ BK662 hb
      replace HB := bs_ HB hb
      (try clear hb)
      (try clear hb2)
      (try clear hk)
      (try clear hi)
      (try clear ho0)
      refine hK.out _ _ (a3_ (k3_ BK661) (k4_ BK662)) (fun hHeld => ?_)
      clear hK K
      refine nm_ 28 ?_
      refine one_ (i := 18) (N := some 30) #[true, true, true, true, true, true, true, true, true, true, true, true, true, true, true, true, true, true, true, false, false, false, false, false, false, false, false, false, false, false, false, false, false, false] rfl rfl (one_of HT_.out (by kernel_rfl)) (by decide) (fun K hK => ?_)
      refine gq_ Try.func27 (by kernel_rfl) rfl #[.int .i64 a2] (by rfl) rfl rfl ?_
      with_reducible refine (salvorref16_Start.calls a2 t679 t680 t681 t682 _ A13.out).mono ?_
      rintro e w31 ⟨v683, rfl, ho0, hb⟩
      refine ⟨_, rfl, ?_⟩
      have n0_ := Aside0.mk (Kd.R_elder' (by (with_reducible repeat (first | apply Kd.R_alloc | apply Kd.R_drewN | apply Kd.R_drew)); exact HO678.out) (Kd.R_base ho0) hb)
      have n1_ := Aside0.mk (Kd.R_lower (Kd.R_new' ho0 (Kd.R_lt (by (with_reducible repeat (first | apply Kd.R_alloc | apply Kd.R_drewN | apply Kd.R_drew)); exact HO678.out))) (below_size (bh_ HB)))
      have n2_ := bb_ BK661 hb
      have n3_ := bb_ BK662 hb
      have n4_ := bs_ HB hb
      clear HO678
      clear BK661
      clear BK662
      clear HB
      have HO678 := n0_
      have HO684 := n1_
      have BK661 := n2_
      have BK662 := n3_
      have HB := n4_
      clear n0_ n1_ n2_ n3_ n4_
      (try clear hb)
      (try clear hb2)
      (try clear hk)
      (try clear hi)
      (try clear ho0)
      obtain ⟨Ao32, co32, eo32⟩ := Kd.R_slice HO678.out
      (first | subst eo32 | (injection eo32 with f1_ f2_ f3_; have f4_ := f1_.symm; have f5_ := f3_.symm; clear f1_ f2_ f3_; subst f4_; subst f5_))
      obtain ⟨Ao33, co33, eo33⟩ := Kd.R_slice HO684.out
      (first | subst eo33 | (injection eo33 with f1_ f2_ f3_; have f4_ := f1_.symm; have f5_ := f3_.symm; clear f1_ f2_ f3_; subst f4_; subst f5_))
      refine hK.out _ _ (a3_ (k3_ BK661) (k4_ BK662)) (fun hHeld => ?_)
      clear hK K
      refine nm_ 30 ?_
      refine one_ (i := 19) (N := some 31) #[true, true, true, true, true, true, true, true, true, true, true, true, true, true, true, true, true, true, true, true, false, false, false, false, false, false, false, false, false, false, false, false, false, false] rfl rfl (one_of HT_.out (by kernel_rfl)) (by decide) (fun K hK => ?_)
      refine gq_ Try.func16 (by kernel_rfl) rfl #[.agg #[.int .i64 t673, .int .i64 t674, .int .u8 t675, .slice Ao32 t676.length co32], .agg #[.int .i64 t679, .int .i64 t680, .int .u8 t681, .slice Ao33 t682.length co33]] (by rfl) rfl rfl ?_
      with_reducible refine (salvorref16_SameMap.calls k t673 t674 t675 _ _ t676 t679 t680 t681 _ _ t682 true _ ?side1 ?side2 ?side3 ?side4 A14.out).mono ?_
      (case side1 => repeat (first | exact (Kd.R_reads' HO678.out).2.2 | (with_reducible refine Kd.C_alloc ?_ _) | (with_reducible refine Kd.C_drewN ?_ _) | (with_reducible refine Kd.C_drew ?_)))
      (case side2 => exact (Kd.R_reads' HO678.out).2.1)
      (case side3 => repeat (first | exact (Kd.R_reads' HO684.out).2.2 | (with_reducible refine Kd.C_alloc ?_ _) | (with_reducible refine Kd.C_drewN ?_ _) | (with_reducible refine Kd.C_drew ?_)))
      (case side4 => exact (Kd.R_reads' HO684.out).2.1)
      rintro e w34 ⟨rfl, hb⟩
      refine ⟨_, rfl, ?_⟩
      have n0_ := Aside0.mk (Kd.R_below (by (with_reducible repeat (first | apply Kd.R_alloc | apply Kd.R_drewN | apply Kd.R_drew)); exact HO678.out) hb)
      have n1_ := Aside0.mk (Kd.R_below (by (with_reducible repeat (first | apply Kd.R_alloc | apply Kd.R_drewN | apply Kd.R_drew)); exact HO684.out) hb)
      have n2_ := bb_ BK661 hb
      have n3_ := bb_ BK662 hb
      have n4_ := bs_ HB hb
      clear HO678
      clear HO684
      clear BK661
      clear BK662
      clear HB
      have HO678 := n0_
      have HO684 := n1_
      have BK661 := n2_
      have BK662 := n3_
      have HB := n4_
      clear n0_ n1_ n2_ n3_ n4_
      (try clear hb)
      refine hK.out _ _ (a3_ (k3_ BK661) (k4_ BK662)) (fun hHeld => ?_)
      clear hK K
      refine nm_ 31 ?_
      refine pu_ 20 32 (lb_ 34 2097151) rfl rfl (ao_ HT_) ?_
      refine pu_ 21 33 (lb_ 34 4194303) rfl rfl (ao_ HT_) ?_
      refine tk_ 22 34 (lb_ 34 8388607) rfl rfl (take_ofW HT_.out HW_.out (by kernel_rfl)) hHeld ?_
      refine tk_ 23 35 (lb_ 34 16777215) rfl rfl (take_ofW HT_.out HW_.out (by kernel_rfl)) hHeld ?_
      refine tk_ 25 37 (lb_ 34 50331647) rfl rfl (take_ofW HT_.out HW_.out (by kernel_rfl)) hHeld ?_
      refine tk_ 26 38 (lb_ 34 117440511) rfl rfl (take_ofW HT_.out HW_.out (by kernel_rfl)) hHeld ?_
      refine one_ (i := 24) (N := some 36) #[true, true, true, true, true, true, true, true, true, true, true, true, true, true, true, true, true, true, true, true, true, true, true, true, true, true, true, false, false, false, false, false, false, false] rfl rfl (one_of HT_.out (by kernel_rfl)) (by decide) (fun K hK => ?_)
      refine gq_ Try.func28 (by kernel_rfl) rfl #[.agg #[.int .i64 a0_0, .int .i64 a0_1, .bool a0_2], .agg #[.int .i64 a1_0, .int .i64 a1_1, .int .u8 a1_2, .slice A1_3 l1_3.length c1_3]] (by rfl) rfl rfl ?_
      with_reducible refine (plan_Begin.calls k a0_0 a0_1 a0_2 a1_0 a1_1 a1_2 _ _ l1_3 t686 t687 t688 t689 _ ?side1 ?side2 A16.out).mono ?_
      (case side1 => exact cb_ HR1_3 HB)
      (case side2 => exact HC1_3.out)
      rintro e w35 ⟨v690, rfl, ho0, hb⟩
      refine ⟨_, rfl, ?_⟩
      have n0_ := Aside0.mk (Kd.R_elder' (by (with_reducible repeat (first | apply Kd.R_alloc | apply Kd.R_drewN | apply Kd.R_drew)); exact HO678.out) (Kd.R_base ho0) hb)
      have n1_ := Aside0.mk (Kd.R_elder' (by (with_reducible repeat (first | apply Kd.R_alloc | apply Kd.R_drewN | apply Kd.R_drew)); exact HO684.out) (Kd.R_base ho0) hb)
      have n2_ := Aside0.mk (Kd.R_lower (Kd.R_new' (Kd.R_new' ho0 (Kd.R_lt (by (with_reducible repeat (first | apply Kd.R_alloc | apply Kd.R_drewN | apply Kd.R_drew)); exact HO678.out))) (Kd.R_lt (by (with_reducible repeat (first | apply Kd.R_alloc | apply Kd.R_drewN | apply Kd.R_drew)); exact HO684.out))) (below_size (bh_ HB)))
      have n3_ := bb_ BK661 hb
      have n4_ := bb_ BK662 hb
      have n5_ := bs_ HB hb
      clear HO678
      clear HO684
      clear BK661
      clear BK662
      clear HB
      have HO678 := n0_
      have HO684 := n1_
      have HO691 := n2_
      have BK661 := n3_
      have BK662 := n4_
      have HB := n5_
      clear n0_ n1_ n2_ n3_ n4_ n5_
      (try clear hb)
      (try clear hb2)
      (try clear hk)
      (try clear hi)
      (try clear ho0)
      refine hK.out _ _ (a3_ (k3_ BK661) (k4_ BK662)) (fun hHeld => ?_)
      clear hK K
      refine nm_ 36 ?_
      refine one_ (i := 27) (N := some 39) #[true, true, true, true, true, true, true, true, true, true, true, true, true, true, true, true, true, true, true, true, true, true, true, true, true, true, true, true, false, false, false, false, false, false] rfl rfl (one_of HT_.out (by kernel_rfl)) (by decide) (fun K hK => ?_)
      refine gq_ Try.func29 (by kernel_rfl) rfl #[.agg #[.int .i64 a0_0, .int .i64 a0_1, .bool a0_2], .agg #[.int .i64 a1_0, .int .i64 a1_1, .int .u8 a1_2, .slice A1_3 l1_3.length c1_3]] (by rfl) rfl rfl ?_
      with_reducible refine (salvorref16_Begin.calls k a0_0 a0_1 a0_2 a1_0 a1_1 a1_2 _ _ l1_3 t692 t693 t694 t695 _ ?side1 ?side2 A17.out).mono ?_
      (case side1 => exact cb_ HR1_3 HB)
      (case side2 => exact HC1_3.out)
      rintro e w36 ⟨v696, rfl, ho0, hb⟩
      refine ⟨_, rfl, ?_⟩
      have n0_ := Aside0.mk (Kd.R_elder' (by (with_reducible repeat (first | apply Kd.R_alloc | apply Kd.R_drewN | apply Kd.R_drew)); exact HO678.out) (Kd.R_base ho0) hb)
      have n1_ := Aside0.mk (Kd.R_elder' (by (with_reducible repeat (first | apply Kd.R_alloc | apply Kd.R_drewN | apply Kd.R_drew)); exact HO684.out) (Kd.R_base ho0) hb)
      have n2_ := Aside0.mk (Kd.R_elder' (by (with_reducible repeat (first | apply Kd.R_alloc | apply Kd.R_drewN | apply Kd.R_drew)); exact HO691.out) (Kd.R_base ho0) hb)
      have n3_ := Aside0.mk (Kd.R_lower (Kd.R_new' (Kd.R_new' (Kd.R_new' ho0 (Kd.R_lt (by (with_reducible repeat (first | apply Kd.R_alloc | apply Kd.R_drewN | apply Kd.R_drew)); exact HO678.out))) (Kd.R_lt (by (with_reducible repeat (first | apply Kd.R_alloc | apply Kd.R_drewN | apply Kd.R_drew)); exact HO684.out))) (Kd.R_lt (by (with_reducible repeat (first | apply Kd.R_alloc | apply Kd.R_drewN | apply Kd.R_drew)); exact HO691.out))) (below_size (bh_ HB)))
      have n4_ := bb_ BK661 hb
      have n5_ := bb_ BK662 hb
      have n6_ := bs_ HB hb
      clear HO678
      clear HO684
      clear HO691
      clear BK661
      clear BK662
      clear HB
      have HO678 := n0_
      have HO684 := n1_
      have HO691 := n2_
      have HO697 := n3_
      have BK661 := n4_
      have BK662 := n5_
      have HB := n6_
      clear n0_ n1_ n2_ n3_ n4_ n5_ n6_
      (try clear hb)
      (try clear hb2)
      (try clear hk)
      (try clear hi)
      (try clear ho0)
      obtain ⟨Ao37, co37, eo37⟩ := Kd.R_slice HO691.out
      (first | subst eo37 | (injection eo37 with f1_ f2_ f3_; have f4_ := f1_.symm; have f5_ := f3_.symm; clear f1_ f2_ f3_; subst f4_; subst f5_))
      obtain ⟨Ao38, co38, eo38⟩ := Kd.R_slice HO697.out
      (first | subst eo38 | (injection eo38 with f1_ f2_ f3_; have f4_ := f1_.symm; have f5_ := f3_.symm; clear f1_ f2_ f3_; subst f4_; subst f5_))
      refine hK.out _ _ (a3_ (k3_ BK661) (k4_ BK662)) (fun hHeld => ?_)
      clear hK K
      refine nm_ 39 ?_
      refine one_ (i := 28) (N := some 40) #[true, true, true, true, true, true, true, true, true, true, true, true, true, true, true, true, true, true, true, true, true, true, true, true, true, true, true, true, true, false, false, false, false, false] rfl rfl (one_of HT_.out (by kernel_rfl)) (by decide) (fun K hK => ?_)
      refine gq_ Try.func16 (by kernel_rfl) rfl #[.agg #[.int .i64 t686, .int .i64 t687, .int .u8 t688, .slice Ao37 t689.length co37], .agg #[.int .i64 t692, .int .i64 t693, .int .u8 t694, .slice Ao38 t695.length co38]] (by rfl) rfl rfl ?_
      with_reducible refine (salvorref16_SameMap.calls k t686 t687 t688 _ _ t689 t692 t693 t694 _ _ t695 true _ ?side1 ?side2 ?side3 ?side4 A18.out).mono ?_
      (case side1 => repeat (first | exact (Kd.R_reads' HO691.out).2.2 | (with_reducible refine Kd.C_alloc ?_ _) | (with_reducible refine Kd.C_drewN ?_ _) | (with_reducible refine Kd.C_drew ?_)))
      (case side2 => exact (Kd.R_reads' HO691.out).2.1)
      (case side3 => repeat (first | exact (Kd.R_reads' HO697.out).2.2 | (with_reducible refine Kd.C_alloc ?_ _) | (with_reducible refine Kd.C_drewN ?_ _) | (with_reducible refine Kd.C_drew ?_)))
      (case side4 => exact (Kd.R_reads' HO697.out).2.1)
      rintro e w39 ⟨rfl, hb⟩
      refine ⟨_, rfl, ?_⟩
      have n0_ := Aside0.mk (Kd.R_below (by (with_reducible repeat (first | apply Kd.R_alloc | apply Kd.R_drewN | apply Kd.R_drew)); exact HO678.out) hb)
      have n1_ := Aside0.mk (Kd.R_below (by (with_reducible repeat (first | apply Kd.R_alloc | apply Kd.R_drewN | apply Kd.R_drew)); exact HO684.out) hb)
      have n2_ := Aside0.mk (Kd.R_below (by (with_reducible repeat (first | apply Kd.R_alloc | apply Kd.R_drewN | apply Kd.R_drew)); exact HO691.out) hb)
      have n3_ := Aside0.mk (Kd.R_below (by (with_reducible repeat (first | apply Kd.R_alloc | apply Kd.R_drewN | apply Kd.R_drew)); exact HO697.out) hb)
      have n4_ := bb_ BK661 hb
      have n5_ := bb_ BK662 hb
      have n6_ := bs_ HB hb
      clear HO678
      clear HO684
      clear HO691
      clear HO697
      clear BK661
      clear BK662
      clear HB
      have HO678 := n0_
      have HO684 := n1_
      have HO691 := n2_
      have HO697 := n3_
      have BK661 := n4_
      have BK662 := n5_
      have HB := n6_
      clear n0_ n1_ n2_ n3_ n4_ n5_ n6_
      (try clear hb)
      refine hK.out _ _ (a3_ (k3_ BK661) (k4_ BK662)) (fun hHeld => ?_)
      clear hK K
      refine nm_ 40 ?_
      refine pu_ 29 41 (lb_ 34 1073741823) rfl rfl (ao_ HT_) ?_
      refine pu_ 30 42 (lb_ 34 2147483647) rfl rfl (ao_ HT_) ?_
      refine one_ (i := 31) (N := some 43) #[true, true, true, true, true, true, true, true, true, true, true, true, true, true, true, true, true, true, true, true, true, true, true, true, true, true, true, true, true, true, true, true, false, false] rfl rfl (one_of HT_.out (by kernel_rfl)) (by decide) (fun K hK => ?_)
      refine gq_ Try.func3 (by kernel_rfl) rfl #[] (by rfl) rfl rfl ?_
      with_reducible refine (salvorlaw18_PlanRuns.calls k  t699 _ A20.out).mono ?_
      rintro e w40 ⟨rfl, hb⟩
      refine ⟨_, rfl, ?_⟩
      have n0_ := Aside0.mk (Kd.R_below (by (with_reducible repeat (first | apply Kd.R_alloc | apply Kd.R_drewN | apply Kd.R_drew)); exact HO678.out) hb)
      have n1_ := Aside0.mk (Kd.R_below (by (with_reducible repeat (first | apply Kd.R_alloc | apply Kd.R_drewN | apply Kd.R_drew)); exact HO684.out) hb)
      have n2_ := Aside0.mk (Kd.R_below (by (with_reducible repeat (first | apply Kd.R_alloc | apply Kd.R_drewN | apply Kd.R_drew)); exact HO691.out) hb)
      have n3_ := Aside0.mk (Kd.R_below (by (with_reducible repeat (first | apply Kd.R_alloc | apply Kd.R_drewN | apply Kd.R_drew)); exact HO697.out) hb)
      have n4_ := bb_ BK661 hb
      have n5_ := bb_ BK662 hb
      have n6_ := bs_ HB hb
      clear HO678
      clear HO684
      clear HO691
      clear HO697
      clear BK661
      clear BK662
      clear HB
      have HO678 := n0_
      have HO684 := n1_
      have HO691 := n2_
      have HO697 := n3_
      have BK661 := n4_
      have BK662 := n5_
      have HB := n6_
      clear n0_ n1_ n2_ n3_ n4_ n5_ n6_
      (try clear hb)
      refine hK.out _ _ (a3_ (k3_ BK661) (k4_ BK662)) (fun hHeld => ?_)
      clear hK K
      refine nm_ 43 ?_
      refine pu_ 32 44 (lb_ 34 8589934591) rfl rfl (ao_ HT_) ?_
      refine pu_ 33 6 (lb_ 34 17179869183) rfl rfl (ao_ HT_) ?_
      refine done_ (done_of HT_.out (by kernel_rfl)) ?_
      try go_wp2
      go_ret
      exact ⟨by first | rfl | (simp [errW_none, errW_some] <;> rfl) | (simp [*, errW_none, errW_some] <;> rfl), bh_ HB⟩
     ·replace c19 := Bool.eq_false_iff.mpr c19
      subst c19
      have H1 : (some false) = some r := by rw [if_neg (show ¬ (false = true) by decide)] at H; exact H
      clear H
      have H := H1
      clear H1
      exact absurd ((Option.some.inj H).trans HT.out) (by simp)
    ·replace c15 := Bool.eq_false_iff.mpr c15
     subst c15
     have H1 : (some false) = some r := by rw [if_neg (show ¬ (false = true) by decide)] at H; exact H
     clear H
     have H := H1
     clear H1
     exact absurd ((Option.some.inj H).trans HT.out) (by simp)
   ·rw [if_neg c11] at H
    have c11b0 : (t667 == t670 && (t668 == t671 && (t669 == t672))) = false := by simpa using c11
    (try (have c11b1 : decide (t667 = t670 && (t668 == t671 && (t669 == t672))) = false := by simpa using c11))
    (try (have c11b2 : (t667 == t670 && (t668 == t671 && (t669 == t672))) = false := by simpa using c11))
    (try (have c11b3 : ¬ (t667 = t670 && (t668 == t671 && (t669 == t672))) := by simpa using c11))
    clear c11
    exact absurd ((Option.some.inj H).trans HT.out) (by simp)
  ·rw [if_neg c8] at H
   have c8b0 : (t665 == t666) = false := by simpa using c8
   (try (have c8b1 : decide (t665 = t666) = false := by simpa using c8))
   (try (have c8b2 : (t665 == t666) = false := by simpa using c8))
   (try (have c8b3 : ¬ (t665 = t666) := by simpa using c8))
   clear c8
   exact absurd ((Option.some.inj H).trans HT.out) (by simp)
 ·replace c5 := Bool.eq_false_iff.mpr c5
  subst c5
  have H1 : ((salvorlaw18_PlanRuns.f k).bind fun t664 => (some t664)) = some r := by rw [if_neg (show ¬ (false = true) by decide)] at H; exact H
  clear H
  have H := H1
  clear H1
  replace H := Option.bind_eq_some_iff.mp H
  obtain ⟨t664, A410, H⟩ := H
  replace H : (some t664) = some r := H
  have A41 := Aside0.mk A410
  clear A410
  obtain rfl := Option.some.inj H
  go_enter Try.func7, Try.ntmps7
  go_wp2_with (first | ((with_reducible refine gate_dst (N := 3) rfl ?_); refine box_e 3 #[.int .i64 a0_0, .int .i64 a0_1, .bool a0_2] 23 ?_; intro gb661 hg w42 hbox hb; have BK661 := Aside0.mk hbox; have GW661 := bg_ HB hg; have GE661 := bg_ HB hg; replace HB := bs_ HB hb; clear hb hbox hg) | ((with_reducible refine gate_dst (N := 4) rfl ?_); refine box_e 4 #[.int .i64 a1_0, .int .i64 a1_1, .int .u8 a1_2, .slice A1_3 l1_3.length c1_3] 26 ?_; intro gb662 hg w43 hbox hb; have BK662 := Aside0.mk hbox; have GW662 := bg_ HB hg; have GE662 := bg_ HB hg; have NB661_662 := bn_ BK661 hg; have NB662_661 := bm_ BK661 hg; replace BK661 := bb_ BK661 hb; replace HB := bs_ HB hb; clear hb hbox hg; have hnb44 := NB662_661.out; have hnc44 := NB661_662.out; obtain ⟨hcz45_0, hcz45_1, hcz45_2, hcz45_3, hfz45_0, hfz45_1, hfz45_2, hfz45_3⟩ := c4_ BK662) | ((with_reducible refine gate_callee (f := 15) rfl ?_); refine gl_ (some 9) rfl rfl Try.func15 (by kernel_rfl) rfl #[.slice A1_3 l1_3.length c1_3] rfl ?_; (with_reducible refine (salvorlaw16_Few.calls _ _ l1_3 false _ ?side1 ?side2 A4.out).mono ?_); (case side1 => exact cb_ HR1_3 HB); (case side2 => exact HC1_3.out); rintro e w' ⟨rfl, ⟨nd, rfl⟩⟩; refine ⟨_, rfl, ?_⟩) | ((with_reducible refine gate_callee (f := 3) rfl ?_); refine gl_ (some 11) rfl rfl Try.func3 (by kernel_rfl) rfl #[] rfl ?_; (with_reducible refine (salvorlaw18_PlanRuns.calls k  t664 _ A41.out).mono ?_); rintro e w46 ⟨rfl, hb⟩; refine ⟨_, rfl, ?_⟩; replace BK661 := bb_ BK661 hb; replace BK662 := bb_ BK662 hb; replace HB := bs_ HB hb; (try clear hb)))
  go_ret
  exact ⟨by first | rfl | (simp [errW_none, errW_some] <;> rfl) | (simp [*, errW_none, errW_some] <;> rfl), bh_ HB⟩

end Go.Proofs.Ytnoilinjlelpaaa.P
