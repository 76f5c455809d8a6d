/- Laid by a program of this session's own (wip/wprint.py, over the kit's print.py): functions of the given program as plain Lean functions, and that the program's calls come to their answers. -/
import Derived.Test.YtnoilinjlelpaaaPx0
import Derived.Test.YtnoilinjlelpaaaPx3
import Derived.Test.YtnoilinjlelpaaaPx5
import Derived.Test.YtnoilinjlelpaaaPx6
import Derived.Test.YtnoilinjlelpaaaPx12
import Derived.Test.YtnoilinjlelpaaaPx14
import Derived.Test.YtnoilinjlelpaaaPx18
import Derived.Test.YtnoilinjlelpaaaPx19
namespace Go.Proofs.Ytnoilinjlelpaaa.P
open Go.RowKit Go.Proofs.YtnoilinjlelpaaaW.PrintWords Go.Proofs.YtnoilinjlelpaaaW.PrintLast Go.Proofs.YtnoilinjlelpaaaW.PrintMore
attribute [local go_sem] max2_int min2_int max_two min_two max_three min_three max_four min_four   -- for this text's walks alone
set_option linter.unusedVariables false
set_option linter.unusedSimpArgs false

/-! ### salvorlaw18_PlanKeeps: function 5 -/
mutual
def salvorlaw18_PlanKeeps.j0 : Nat → Int → Int → Bool → Int → Int → Bool → Int → Int → Int → List (S33) → Option (Bool)
 | 0, _, _, _, _, _, _, _, _, _, _ => none
 | k + 1, x2, x3, x29, x531000, x531001, x531002, x532000, x532001, x532002, x532003 => if x29 = true then ((salvorlaw18_PlanRuns.f k).bind fun t535 => (some t535)) else ((plan_Next.f k x531000 x531001 x531002 x532000 x532001 x532002 x532003).bind fun bt536 => ((plan_After.f k x531000 x531001 x531002 x532000 x532001 x532002 x532003 x2).bind fun bt540 => ((maptext_May.f k bt540.1 bt540.2.1 bt540.2.2.1 bt540.2.2.2).bind fun t547 => (if t547 = true then ((region_End.f k bt540.2.2.2).bind fun t548 => ((region_End.f k x532003).bind fun t549 => (if t548 = t549 then (if bt536.1 = 0 then (salvorlaw18_PlanKeeps.j1 k x3 false x532000 x532001 x532002 x532003 bt536.1 bt536.2.1 bt536.2.2 bt540.1 bt540.2.1 bt540.2.2.1 bt540.2.2.2) else (if bt536.2.2 < 1 then (salvorlaw18_PlanKeeps.j1 k x3 true x532000 x532001 x532002 x532003 bt536.1 bt536.2.1 bt536.2.2 bt540.1 bt540.2.1 bt540.2.2.1 bt540.2.2.2) else (if bt536.2.2 > 4096 then (salvorlaw18_PlanKeeps.j1 k x3 true x532000 x532001 x532002 x532003 bt536.1 bt536.2.1 bt536.2.2 bt540.1 bt540.2.1 bt540.2.2.1 bt540.2.2.2) else (if bt536.2.1 < 0 then (salvorlaw18_PlanKeeps.j1 k x3 true x532000 x532001 x532002 x532003 bt536.1 bt536.2.1 bt536.2.2 bt540.1 bt540.2.1 bt540.2.2.1 bt540.2.2.2) else ((region_End.f k x532003).bind fun t550 => (salvorlaw18_PlanKeeps.j1 k x3 (decide ((wrap64 (bt536.2.1 + bt536.2.2)) > t550)) x532000 x532001 x532002 x532003 bt536.1 bt536.2.1 bt536.2.2 bt540.1 bt540.2.1 bt540.2.2.1 bt540.2.2.2)))))) else (salvorlaw18_PlanKeeps.j1 k x3 true x532000 x532001 x532002 x532003 bt536.1 bt536.2.1 bt536.2.2 bt540.1 bt540.2.1 bt540.2.2.1 bt540.2.2.2)))) else (salvorlaw18_PlanKeeps.j1 k x3 true x532000 x532001 x532002 x532003 bt536.1 bt536.2.1 bt536.2.2 bt540.1 bt540.2.1 bt540.2.2.1 bt540.2.2.2)))))
def salvorlaw18_PlanKeeps.j1 : Nat → Int → Bool → Int → Int → Int → List (S33) → Int → Int → Int → Int → Int → Int → List (S33) → Option (Bool)
 | 0, _, _, _, _, _, _, _, _, _, _, _, _, _ => none
 | k + 1, x3, x80, x532000, x532001, x532002, x532003, x540000, x540001, x540002, x547000, x547001, x547002, x547003 => if x80 = true then (some false) else ((region_At.f k x532003 x3).bind fun bt551 => ((region_At.f k x547003 x3).bind fun bt556 => (if x540000 = 0 then (salvorlaw18_PlanKeeps.j2 k bt551.2.2.2 bt556.2.2.2 false bt551.1 bt551.2.1 bt551.2.2.1 bt556.1 bt556.2.1 bt556.2.2.1) else (if x3 ≥ x540001 then (salvorlaw18_PlanKeeps.j2 k bt551.2.2.2 bt556.2.2.2 (decide (x3 < (wrap64 (x540001 + x540002)))) bt551.1 bt551.2.1 bt551.2.2.1 bt556.1 bt556.2.1 bt556.2.2.1) else (salvorlaw18_PlanKeeps.j2 k bt551.2.2.2 bt556.2.2.2 false bt551.1 bt551.2.1 bt551.2.2.1 bt556.1 bt556.2.1 bt556.2.2.1)))))
def salvorlaw18_PlanKeeps.j2 : Nat → Bool → Bool → Bool → Int → Int → Int → Int → Int → Int → Option (Bool)
 | 0, _, _, _, _, _, _, _, _, _ => none
 | k + 1, x12, x14, x15, x556000, x556001, x556002, x561000, x561001, x561002 => if (x12 != x14) = true then (salvorlaw18_PlanKeeps.j3 k x12 x15 true x556000 x556001 x556002 x561000 x561001 x561002) else (if x12 = true then (if x556002 = 43 then (if x15 = true then (salvorlaw18_PlanKeeps.j3 k x12 x15 true x556000 x556001 x556002 x561000 x561001 x561002) else (salvorlaw18_PlanKeeps.j3 k x12 x15 (x561002 != 43) x556000 x556001 x556002 x561000 x561001 x561002)) else (salvorlaw18_PlanKeeps.j3 k x12 x15 false x556000 x556001 x556002 x561000 x561001 x561002)) else (salvorlaw18_PlanKeeps.j3 k x12 x15 false x556000 x556001 x556002 x561000 x561001 x561002))
def salvorlaw18_PlanKeeps.j3 : Nat → Bool → Bool → Bool → Int → Int → Int → Int → Int → Int → Option (Bool)
 | 0, _, _, _, _, _, _, _, _, _ => none
 | k + 1, x12, x15, x131, x556000, x556001, x556002, x561000, x561001, x561002 => if x131 = true then (some false) else (if x12 = true then (if x15 = true then ((salvorlaw18_PlanRuns.f k).bind fun t561 => (some t561)) else (if x561002 = x556002 then ((salvorlaw18_PlanRuns.f k).bind fun t562 => (some t562)) else (if x556002 = 42 then (if x561002 = 47 then ((salvorlaw18_PlanRuns.f k).bind fun t563 => (some t563)) else (some false)) else (some false)))) else ((salvorlaw18_PlanRuns.f k).bind fun t564 => (some t564)))
end
def salvorlaw18_PlanKeeps.f (k : Nat) (a0_0 : Int) (a0_1 : Int) (a0_2 : Bool) (a1_0 : Int) (a1_1 : Int) (a1_2 : Int) (l1_3 : List (S33)) (a2 : Int) (a3 : Int) : Option (Bool) := (salvorlaw16_Few.f l1_3).bind fun t532 => (if t532 = true then ((plan_May.f a0_0 a0_1 a0_2).bind fun t533 => (if t533 = true then ((maptext_May.f k a1_0 a1_1 a1_2 l1_3).bind fun t534 => (salvorlaw18_PlanKeeps.j0 k a2 a3 (!t534) a0_0 a0_1 a0_2 a1_0 a1_1 a1_2 l1_3)) else (salvorlaw18_PlanKeeps.j0 k a2 a3 true a0_0 a0_1 a0_2 a1_0 a1_1 a1_2 l1_3))) else (salvorlaw18_PlanKeeps.j0 k a2 a3 true a0_0 a0_1 a0_2 a1_0 a1_1 a1_2 l1_3))
theorem salvorlaw18_PlanKeeps.mono_l : ∀ k, (∀ y0 y1 y2 y3 y4 y5 y6 y7 y8 y9, LeO (salvorlaw18_PlanKeeps.j0 k y0 y1 y2 y3 y4 y5 y6 y7 y8 y9) (salvorlaw18_PlanKeeps.j0 (k + 1) y0 y1 y2 y3 y4 y5 y6 y7 y8 y9)) ∧ (∀ y0 y1 y2 y3 y4 y5 y6 y7 y8 y9 y10 y11 y12, LeO (salvorlaw18_PlanKeeps.j1 k y0 y1 y2 y3 y4 y5 y6 y7 y8 y9 y10 y11 y12) (salvorlaw18_PlanKeeps.j1 (k + 1) y0 y1 y2 y3 y4 y5 y6 y7 y8 y9 y10 y11 y12)) ∧ (∀ y0 y1 y2 y3 y4 y5 y6 y7 y8, LeO (salvorlaw18_PlanKeeps.j2 k y0 y1 y2 y3 y4 y5 y6 y7 y8) (salvorlaw18_PlanKeeps.j2 (k + 1) y0 y1 y2 y3 y4 y5 y6 y7 y8)) ∧ (∀ y0 y1 y2 y3 y4 y5 y6 y7 y8, LeO (salvorlaw18_PlanKeeps.j3 k y0 y1 y2 y3 y4 y5 y6 y7 y8) (salvorlaw18_PlanKeeps.j3 (k + 1) y0 y1 y2 y3 y4 y5 y6 y7 y8))
 | 0 => ⟨fun _ _ _ _ _ _ _ _ _ _ r h => by simp [salvorlaw18_PlanKeeps.j0] at h, fun _ _ _ _ _ _ _ _ _ _ _ _ _ r h => by simp [salvorlaw18_PlanKeeps.j1] at h, fun _ _ _ _ _ _ _ _ _ r h => by simp [salvorlaw18_PlanKeeps.j2] at h, fun _ _ _ _ _ _ _ _ _ r h => by simp [salvorlaw18_PlanKeeps.j3] at h⟩
 | k + 1 => by
  obtain ⟨ih0, ih1, ih2, ih3⟩ := salvorlaw18_PlanKeeps.mono_l k
  refine ⟨?_, ?_, ?_, ?_⟩
  ·intro y0 y1 y2 y3 y4 y5 y6 y7 y8 y9
   unfold salvorlaw18_PlanKeeps.j0
   repeat' first
   | (with_reducible exact ih0 _ _ _ _ _ _ _ _ _ _)
   | (with_reducible exact ih1 _ _ _ _ _ _ _ _ _ _ _ _ _)
   | (with_reducible exact ih2 _ _ _ _ _ _ _ _ _)
   | (with_reducible exact ih3 _ _ _ _ _ _ _ _ _)
   | (with_reducible exact maptext_May.mono _ _ _ _ _)
   | (with_reducible exact plan_After.mono _ _ _ _ _ _ _ _ _)
   | (with_reducible exact plan_Next.mono _ _ _ _ _ _ _ _)
   | (with_reducible exact region_At.mono _ _ _)
   | (with_reducible exact region_End.mono _ _)
   | (with_reducible exact salvorlaw18_PlanRuns.mono _)
   | (with_reducible exact LeO.refl _)
   | (with_reducible exact LeO.none _)
   | (with_reducible refine LeO.ite ?_ ?_)
   | (with_reducible refine LeO.bind ?_ (fun _ => ?_))
   | exact ih0 _ _ _ _ _ _ _ _ _ _
   | exact ih1 _ _ _ _ _ _ _ _ _ _ _ _ _
   | exact ih2 _ _ _ _ _ _ _ _ _
   | exact ih3 _ _ _ _ _ _ _ _ _
   | exact maptext_May.mono _ _ _ _ _
   | exact plan_After.mono _ _ _ _ _ _ _ _ _
   | exact plan_Next.mono _ _ _ _ _ _ _ _
   | exact region_At.mono _ _ _
   | exact region_End.mono _ _
   | exact salvorlaw18_PlanRuns.mono _
   | exact LeO.none _
   | refine LeO.ite ?_ ?_
   | refine LeO.bind ?_ (fun _ => ?_)
  ·intro y0 y1 y2 y3 y4 y5 y6 y7 y8 y9 y10 y11 y12
   unfold salvorlaw18_PlanKeeps.j1
   repeat' first
   | (with_reducible exact ih0 _ _ _ _ _ _ _ _ _ _)
   | (with_reducible exact ih1 _ _ _ _ _ _ _ _ _ _ _ _ _)
   | (with_reducible exact ih2 _ _ _ _ _ _ _ _ _)
   | (with_reducible exact ih3 _ _ _ _ _ _ _ _ _)
   | (with_reducible exact maptext_May.mono _ _ _ _ _)
   | (with_reducible exact plan_After.mono _ _ _ _ _ _ _ _ _)
   | (with_reducible exact plan_Next.mono _ _ _ _ _ _ _ _)
   | (with_reducible exact region_At.mono _ _ _)
   | (with_reducible exact region_End.mono _ _)
   | (with_reducible exact salvorlaw18_PlanRuns.mono _)
   | (with_reducible exact LeO.refl _)
   | (with_reducible exact LeO.none _)
   | (with_reducible refine LeO.ite ?_ ?_)
   | (with_reducible refine LeO.bind ?_ (fun _ => ?_))
   | exact ih0 _ _ _ _ _ _ _ _ _ _
   | exact ih1 _ _ _ _ _ _ _ _ _ _ _ _ _
   | exact ih2 _ _ _ _ _ _ _ _ _
   | exact ih3 _ _ _ _ _ _ _ _ _
   | exact maptext_May.mono _ _ _ _ _
   | exact plan_After.mono _ _ _ _ _ _ _ _ _
   | exact plan_Next.mono _ _ _ _ _ _ _ _
   | exact region_At.mono _ _ _
   | exact region_End.mono _ _
   | exact salvorlaw18_PlanRuns.mono _
   | exact LeO.none _
   | refine LeO.ite ?_ ?_
   | refine LeO.bind ?_ (fun _ => ?_)
  ·intro y0 y1 y2 y3 y4 y5 y6 y7 y8
   unfold salvorlaw18_PlanKeeps.j2
   repeat' first
   | (with_reducible exact ih0 _ _ _ _ _ _ _ _ _ _)
   | (with_reducible exact ih1 _ _ _ _ _ _ _ _ _ _ _ _ _)
   | (with_reducible exact ih2 _ _ _ _ _ _ _ _ _)
   | (with_reducible exact ih3 _ _ _ _ _ _ _ _ _)
   | (with_reducible exact maptext_May.mono _ _ _ _ _)
   | (with_reducible exact plan_After.mono _ _ _ _ _ _ _ _ _)
   | (with_reducible exact plan_Next.mono _ _ _ _ _ _ _ _)
   | (with_reducible exact region_At.mono _ _ _)
   | (with_reducible exact region_End.mono _ _)
   | (with_reducible exact salvorlaw18_PlanRuns.mono _)
   | (with_reducible exact LeO.refl _)
   | (with_reducible exact LeO.none _)
   | (with_reducible refine LeO.ite ?_ ?_)
   | (with_reducible refine LeO.bind ?_ (fun _ => ?_))
   | exact ih0 _ _ _ _ _ _ _ _ _ _
   | exact ih1 _ _ _ _ _ _ _ _ _ _ _ _ _
   | exact ih2 _ _ _ _ _ _ _ _ _
   | exact ih3 _ _ _ _ _ _ _ _ _
   | exact maptext_May.mono _ _ _ _ _
   | exact plan_After.mono _ _ _ _ _ _ _ _ _
   | exact plan_Next.mono _ _ _ _ _ _ _ _
   | exact region_At.mono _ _ _
   | exact region_End.mono _ _
   | exact salvorlaw18_PlanRuns.mono _
   | exact LeO.none _
   | refine LeO.ite ?_ ?_
   | refine LeO.bind ?_ (fun _ => ?_)
  ·intro y0 y1 y2 y3 y4 y5 y6 y7 y8
   unfold salvorlaw18_PlanKeeps.j3
   repeat' first
   | (with_reducible exact ih0 _ _ _ _ _ _ _ _ _ _)
   | (with_reducible exact ih1 _ _ _ _ _ _ _ _ _ _ _ _ _)
   | (with_reducible exact ih2 _ _ _ _ _ _ _ _ _)
   | (with_reducible exact ih3 _ _ _ _ _ _ _ _ _)
   | (with_reducible exact maptext_May.mono _ _ _ _ _)
   | (with_reducible exact plan_After.mono _ _ _ _ _ _ _ _ _)
   | (with_reducible exact plan_Next.mono _ _ _ _ _ _ _ _)
   | (with_reducible exact region_At.mono _ _ _)
   | (with_reducible exact region_End.mono _ _)
   | (with_reducible exact salvorlaw18_PlanRuns.mono _)
   | (with_reducible exact LeO.refl _)
   | (with_reducible exact LeO.none _)
   | (with_reducible refine LeO.ite ?_ ?_)
   | (with_reducible refine LeO.bind ?_ (fun _ => ?_))
   | exact ih0 _ _ _ _ _ _ _ _ _ _
   | exact ih1 _ _ _ _ _ _ _ _ _ _ _ _ _
   | exact ih2 _ _ _ _ _ _ _ _ _
   | exact ih3 _ _ _ _ _ _ _ _ _
   | exact maptext_May.mono _ _ _ _ _
   | exact plan_After.mono _ _ _ _ _ _ _ _ _
   | exact plan_Next.mono _ _ _ _ _ _ _ _
   | exact region_At.mono _ _ _
   | exact region_End.mono _ _
   | exact salvorlaw18_PlanRuns.mono _
   | exact LeO.none _
   | refine LeO.ite ?_ ?_
   | refine LeO.bind ?_ (fun _ => ?_)
theorem salvorlaw18_PlanKeeps.mono : ∀ a0 a1 a2 a3 a4 a5 a6 a7 a8 k, LeO (salvorlaw18_PlanKeeps.f k a0 a1 a2 a3 a4 a5 a6 a7 a8) (salvorlaw18_PlanKeeps.f (k + 1) a0 a1 a2 a3 a4 a5 a6 a7 a8) := by
 intro a0 a1 a2 a3 a4 a5 a6 a7 a8 k
 obtain ⟨ih0, ih1, ih2, ih3⟩ := salvorlaw18_PlanKeeps.mono_l k
 unfold salvorlaw18_PlanKeeps.f
 repeat' first
   | (with_reducible exact ih0 _ _ _ _ _ _ _ _ _ _)
   | (with_reducible exact ih1 _ _ _ _ _ _ _ _ _ _ _ _ _)
   | (with_reducible exact ih2 _ _ _ _ _ _ _ _ _)
   | (with_reducible exact ih3 _ _ _ _ _ _ _ _ _)
   | (with_reducible exact maptext_May.mono _ _ _ _ _)
   | (with_reducible exact plan_After.mono _ _ _ _ _ _ _ _ _)
   | (with_reducible exact plan_Next.mono _ _ _ _ _ _ _ _)
   | (with_reducible exact region_At.mono _ _ _)
   | (with_reducible exact region_End.mono _ _)
   | (with_reducible exact salvorlaw18_PlanRuns.mono _)
   | (with_reducible exact LeO.refl _)
   | (with_reducible exact LeO.none _)
   | (with_reducible refine LeO.ite ?_ ?_)
   | (with_reducible refine LeO.bind ?_ (fun _ => ?_))
   | exact ih0 _ _ _ _ _ _ _ _ _ _
   | exact ih1 _ _ _ _ _ _ _ _ _ _ _ _ _
   | exact ih2 _ _ _ _ _ _ _ _ _
   | exact ih3 _ _ _ _ _ _ _ _ _
   | exact maptext_May.mono _ _ _ _ _
   | exact plan_After.mono _ _ _ _ _ _ _ _ _
   | exact plan_Next.mono _ _ _ _ _ _ _ _
   | exact region_At.mono _ _ _
   | exact region_End.mono _ _
   | exact salvorlaw18_PlanRuns.mono _
   | exact LeO.none _
   | refine LeO.ite ?_ ?_
   | refine LeO.bind ?_ (fun _ => ?_)
def salvorlaw18_PlanKeeps.T5 : Bool × List (List Nat × List Nat) := (true, [([], []), ([0], [0]), ([1], [1]), ([2, 1], [2]), ([3], [3]), ([4, 3], [3, 4]), ([5, 3, 3], [3, 5]), ([3], [3]), ([7, 3], [3, 7]), ([8, 6, 3], [3, 8]), ([6, 9, 3], [3, 6, 9]), ([3, 10], [3, 10]), ([11, 9], [11]), ([12], [12]), ([13, 12], [12, 13]), ([14, 12], [12, 14]), ([15, 12, 12], [12, 15]), ([16], [16]), ([17, 16], [16, 17]), ([18, 16], [16, 18]), ([19, 16, 16], [16, 19]), ([20], [20]), ([21, 20], [20, 21]), ([22, 20], [20, 22]), ([20, 23, 16], [16, 20, 23]), ([24, 20, 16], [16, 24]), ([25], [25]), ([26, 25], [25, 26]), ([27, 25], [25, 27]), ([25, 28, 16], [16, 25, 28]), ([29, 25, 16], [16, 29]), ([30], [30]), ([31, 30], [30, 31]), ([30], [30]), ([33, 30], [30, 33]), ([32, 34, 30], [30, 32, 34]), ([30], [30]), ([36, 30], [30, 36]), ([37, 30, 30], [30, 37]), ([35, 38, 30], [30, 35, 38]), ([30, 39, 16], [16, 30, 39]), ([16, 40, 12], [12, 16, 40]), ([12, 41], [12, 41])])
def salvorlaw18_PlanKeeps.B5 : List Nat := [0, 1, 3, 7, 15, 31, 63, 15, 143, 511, 1023, 2047, 4095, 8191, 16383, 32767, 65535, 131071, 262143, 524287, 1048575, 2097151, 4194303, 8388607, 16777215, 33554431, 67108863, 134217727, 268435455, 536870911, 1073741823, 2147483647, 4294967295, 2147483647, 10737418239, 34359738367, 2147483647, 70866960383, 208305913855, 549755813887, 1099511627775, 2199023255551, 4398046511103]
theorem salvorlaw18_PlanKeeps.tab5 : rtab .any (opsOf Try.f5 5) = salvorlaw18_PlanKeeps.T5 := by kernel_rfl
theorem salvorlaw18_PlanKeeps.bits5 : waitsOk salvorlaw18_PlanKeeps.T5.2 salvorlaw18_PlanKeeps.B5 = true := by kernel_rfl
set_option maxHeartbeats 8000000 in
set_option maxRecDepth 100000 in
theorem salvorlaw18_PlanKeeps.calls (k : Nat) (a0_0 : Int) (a0_1 : Int) (a0_2 : Bool) (a1_0 : Int) (a1_1 : Int) (a1_2 : Int) (A1_3 : Option Addr) (c1_3 : Nat) (l1_3 : List (S33)) (a2 : Int) (a3 : Int) (r : Bool) (w : World) (hr1_3 : Kd.C k33 w A1_3 l1_3.length l1_3) (hc1_3 : l1_3.length ≤ c1_3) (h : salvorlaw18_PlanKeeps.f k a0_0 a0_1 a0_2 a1_0 a1_1 a1_2 l1_3 a2 a3 = some r) (hrt : r = true) :
  Calls Try.prog 5 #[.agg #[.int .i64 a0_0, .int .i64 a0_1, .bool a0_2], .agg #[.int .i64 a1_0, .int .i64 a1_1, .int .u8 a1_2, .slice A1_3 l1_3.length c1_3], .int .i64 a2, .int .i64 a3] w fun e w' => e = .returned (.bool r) ∧ Below w.heap.size w w' := by
 have HT := Aside0.mk hrt
 clear hrt
 have hu23 := Try.underlying23
 have hu26 := Try.underlying26
 have hu29 := Try.underlying29
 have hu33 := Try.underlying33
 have HR1_3 := Aside0.mk hr1_3
 have HC1_3 := Aside0.mk hc1_3
 clear hr1_3 hc1_3
 have HB := Aside0.mk (Below.refl w.heap.size w)
 have H : ((salvorlaw16_Few.f l1_3).bind fun t532 => (if t532 = true then ((plan_May.f a0_0 a0_1 a0_2).bind fun t533 => (if t533 = true then ((maptext_May.f k a1_0 a1_1 a1_2 l1_3).bind fun t534 => (salvorlaw18_PlanKeeps.j0 k a2 a3 (!t534) a0_0 a0_1 a0_2 a1_0 a1_1 a1_2 l1_3)) else (salvorlaw18_PlanKeeps.j0 k a2 a3 true a0_0 a0_1 a0_2 a1_0 a1_1 a1_2 l1_3))) else (salvorlaw18_PlanKeeps.j0 k a2 a3 true a0_0 a0_1 a0_2 a1_0 a1_1 a1_2 l1_3))) = some r := h
 clear h
 have HC5 := Aside0.mk H
 clear H
 go_enter Try.func5, Try.ntmps5
 go_upto_region 1 with (first | ((with_reducible refine gate_dst (N := 4) rfl ?_); refine box_e 4 #[.int .i64 a0_0, .int .i64 a0_1, .bool a0_2] 23 ?_; intro gb530 hg w6 hbox hb; have BK530 := Aside0.mk hbox; have GW530 := bg_ HB hg; have GE530 := bg_ HB hg; replace HB := bs_ HB hb; clear hb hbox hg) | ((with_reducible refine gate_dst (N := 5) rfl ?_); refine box_e 5 #[.int .i64 a1_0, .int .i64 a1_1, .int .u8 a1_2, .slice A1_3 l1_3.length c1_3] 26 ?_; intro gb531 hg w7 hbox hb; have BK531 := Aside0.mk hbox; have GW531 := bg_ HB hg; have GE531 := bg_ HB hg; have NB530_531 := bn_ BK530 hg; have NB531_530 := bm_ BK530 hg; replace BK530 := bb_ BK530 hb; replace HB := bs_ HB hb; clear hb hbox hg))
 (try simp only [Act.put, List.setIfInBounds_toArray, List.set_cons_zero, List.set_cons_succ])
 go_cut [29] (fun v29 wc => ∃ (kq : Nat) (x29_4 : Bool), v29 = .bool x29_4 ∧ Aside0 (salvorlaw18_PlanKeeps.j0 kq a2 a3 x29_4 a0_0 a0_1 a0_2 a1_0 a1_1 a1_2 l1_3 = some r) ∧ Aside0 (kq ≤ k) ∧ Aside0 (wc.heap[gb530]? = some (.cells #[.int .i64 a0_0, .int .i64 a0_1, .bool a0_2] 23 (0, 0))) ∧ Aside0 (wc.heap[gb531]? = some (.cells #[.int .i64 a1_0, .int .i64 a1_1, .int .u8 a1_2, (.slice A1_3 l1_3.length c1_3)] 26 (0, 0))) ∧ Aside0 (Below w.heap.size w wc))
 case first =>
  have H := HC5.out
  clear HC5
  replace H := Option.bind_eq_some_iff.mp H
  obtain ⟨t532, A80, H⟩ := H
  replace H : (if t532 = true then ((plan_May.f a0_0 a0_1 a0_2).bind fun t533 => (if t533 = true then ((maptext_May.f k a1_0 a1_1 a1_2 l1_3).bind fun t534 => (salvorlaw18_PlanKeeps.j0 k a2 a3 (!t534) a0_0 a0_1 a0_2 a1_0 a1_1 a1_2 l1_3)) else (salvorlaw18_PlanKeeps.j0 k a2 a3 true a0_0 a0_1 a0_2 a1_0 a1_1 a1_2 l1_3))) else (salvorlaw18_PlanKeeps.j0 k a2 a3 true a0_0 a0_1 a0_2 a1_0 a1_1 a1_2 l1_3)) = some r := H
  have A8 := Aside0.mk A80
  clear A80
  by_cases c9 : t532 = true
  ·subst c9
   have H1 : ((plan_May.f a0_0 a0_1 a0_2).bind fun t533 => (if t533 = true then ((maptext_May.f k a1_0 a1_1 a1_2 l1_3).bind fun t534 => (salvorlaw18_PlanKeeps.j0 k a2 a3 (!t534) a0_0 a0_1 a0_2 a1_0 a1_1 a1_2 l1_3)) else (salvorlaw18_PlanKeeps.j0 k a2 a3 true a0_0 a0_1 a0_2 a1_0 a1_1 a1_2 l1_3))) = some r := by rw [if_pos rfl] at H; exact H
   clear H
   have H := H1
   clear H1
   replace H := Option.bind_eq_some_iff.mp H
   obtain ⟨t533, A100, H⟩ := H
   replace H : (if t533 = true then ((maptext_May.f k a1_0 a1_1 a1_2 l1_3).bind fun t534 => (salvorlaw18_PlanKeeps.j0 k a2 a3 (!t534) a0_0 a0_1 a0_2 a1_0 a1_1 a1_2 l1_3)) else (salvorlaw18_PlanKeeps.j0 k a2 a3 true a0_0 a0_1 a0_2 a1_0 a1_1 a1_2 l1_3)) = some r := H
   have A10 := Aside0.mk A100
   clear A100
   by_cases c11 : t533 = true
   ·subst c11
    have H1 : ((maptext_May.f k a1_0 a1_1 a1_2 l1_3).bind fun t534 => (salvorlaw18_PlanKeeps.j0 k a2 a3 (!t534) a0_0 a0_1 a0_2 a1_0 a1_1 a1_2 l1_3)) = some r := by rw [if_pos rfl] at H; exact H
    clear H
    have H := H1
    clear H1
    replace H := Option.bind_eq_some_iff.mp H
    obtain ⟨t534, A120, H⟩ := H
    replace H : (salvorlaw18_PlanKeeps.j0 k a2 a3 (!t534) a0_0 a0_1 a0_2 a1_0 a1_1 a1_2 l1_3) = some r := H
    have A12 := Aside0.mk A120
    clear A120
    have H' := Aside0.mk H
    clear H
    have hnb13 := NB531_530.out
    have hnc13 := NB530_531.out
    have hcz14_0 : w7.cell? ⟨gb531, 0, none⟩ = some (.int .i64 a1_0) := (blk_cell BK531.out 0).trans rfl
    have hcz14_1 : w7.cell? ⟨gb531, 1, none⟩ = some (.int .i64 a1_1) := (blk_cell BK531.out 1).trans rfl
    have hcz14_2 : w7.cell? ⟨gb531, 2, none⟩ = some (.int .u8 a1_2) := (blk_cell BK531.out 2).trans rfl
    have hcz14_3 : w7.cell? ⟨gb531, 3, none⟩ = some (.slice A1_3 l1_3.length c1_3) := (blk_cell BK531.out 3).trans rfl
    have hfz14_0 := blk_frozen BK531.out 0
    have hfz14_1 := blk_frozen BK531.out 1
    have hfz14_2 := blk_frozen BK531.out 2
    have hfz14_3 := blk_frozen BK531.out 3
    go_wp2_with (first | ((with_reducible refine gate_callee (f := 15) rfl ?_); refine gl_ (some 18) rfl rfl Try.func15 (by as_aux_lemma => kernel_rfl) rfl #[.slice A1_3 l1_3.length c1_3] rfl ?_; (with_reducible refine (salvorlaw16_Few.calls _ _ l1_3 true _ ?side1 ?side2 A8.out).mono ?_); (case side1 => exact cb_ HR1_3 HB); (case side2 => exact HC1_3.out); rintro e w' ⟨rfl, ⟨nd, rfl⟩⟩; refine ⟨_, rfl, ?_⟩; have hcz15_0 : w7.cell? ⟨gb530, 0, none⟩ = some (.int .i64 a0_0) := (blk_cell BK530.out 0).trans rfl; have hcz15_1 : w7.cell? ⟨gb530, 1, none⟩ = some (.int .i64 a0_1) := (blk_cell BK530.out 1).trans rfl; have hcz15_2 : w7.cell? ⟨gb530, 2, none⟩ = some (.bool a0_2) := (blk_cell BK530.out 2).trans rfl; have hfz15_0 := blk_frozen BK530.out 0; have hfz15_1 := blk_frozen BK530.out 1; have hfz15_2 := blk_frozen BK530.out 2) | (go_at_call 14; (with_reducible refine (plan_May.calls a0_0 a0_1 a0_2 true _ A10.out).mono ?_); rintro e w16 ⟨rfl, hb⟩; replace BK530 := bb_ BK530 hb; replace BK531 := bb_ BK531 hb; replace HB := bs_ HB hb; (try clear hb); (try clear hb2); (try clear hk); (try clear hi); have hcz17_0 : w16.cell? ⟨gb531, 0, none⟩ = some (.int .i64 a1_0) := (blk_cell BK531.out 0).trans rfl; have hcz17_1 : w16.cell? ⟨gb531, 1, none⟩ = some (.int .i64 a1_1) := (blk_cell BK531.out 1).trans rfl; have hcz17_2 : w16.cell? ⟨gb531, 2, none⟩ = some (.int .u8 a1_2) := (blk_cell BK531.out 2).trans rfl; have hcz17_3 : w16.cell? ⟨gb531, 3, none⟩ = some (.slice A1_3 l1_3.length c1_3) := (blk_cell BK531.out 3).trans rfl; have hfz17_0 := blk_frozen BK531.out 0; have hfz17_1 := blk_frozen BK531.out 1; have hfz17_2 := blk_frozen BK531.out 2; have hfz17_3 := blk_frozen BK531.out 3) | (go_at_call 18; (with_reducible refine (maptext_May.calls k a1_0 a1_1 a1_2 _ _ l1_3 t534 _ ?side1 ?side2 A12.out).mono ?_); (case side1 => exact cb_ HR1_3 HB); (case side2 => exact HC1_3.out); rintro e w18 ⟨rfl, hb⟩; replace BK530 := bb_ BK530 hb; replace BK531 := bb_ BK531 hb; replace HB := bs_ HB hb; (try clear hb); (try clear hb2); (try clear hk); (try clear hi)))
    go_meet
    case rel => exact ⟨_, (!t534), (by first | rfl | (simp; done) | (simp [*]; done)), H', ⟨by first | omega | exact Nat.le_refl _⟩, ⟨by (with_reducible repeat (first | refine blk_drewN ?_ _ | refine blk_drew ?_ | refine blk_alloc ?_ _)); exact BK530.out⟩, ⟨by (with_reducible repeat (first | refine blk_drewN ?_ _ | refine blk_drew ?_ | refine blk_alloc ?_ _)); exact BK531.out⟩, ⟨by repeat (first | (with_reducible first | exact HB.out | apply below_alloc | apply pw_below_drewN | apply below_drew1 | refine below_set ?_ GE530.out | refine below_set ?_ GE531.out) | exact HB.out)⟩⟩
   ·replace c11 := Bool.eq_false_iff.mpr c11
    subst c11
    have H1 : (salvorlaw18_PlanKeeps.j0 k a2 a3 true a0_0 a0_1 a0_2 a1_0 a1_1 a1_2 l1_3) = some r := by rw [if_neg (show ¬ (false = true) by decide)] at H; exact H
    clear H
    have H := H1
    clear H1
    have H' := Aside0.mk H
    clear H
    have hnb19 := NB531_530.out
    have hnc19 := NB530_531.out
    have hcz20_0 : w7.cell? ⟨gb531, 0, none⟩ = some (.int .i64 a1_0) := (blk_cell BK531.out 0).trans rfl
    have hcz20_1 : w7.cell? ⟨gb531, 1, none⟩ = some (.int .i64 a1_1) := (blk_cell BK531.out 1).trans rfl
    have hcz20_2 : w7.cell? ⟨gb531, 2, none⟩ = some (.int .u8 a1_2) := (blk_cell BK531.out 2).trans rfl
    have hcz20_3 : w7.cell? ⟨gb531, 3, none⟩ = some (.slice A1_3 l1_3.length c1_3) := (blk_cell BK531.out 3).trans rfl
    have hfz20_0 := blk_frozen BK531.out 0
    have hfz20_1 := blk_frozen BK531.out 1
    have hfz20_2 := blk_frozen BK531.out 2
    have hfz20_3 := blk_frozen BK531.out 3
    go_wp2_with (first | ((with_reducible refine gate_callee (f := 15) rfl ?_); refine gl_ (some 18) rfl rfl Try.func15 (by as_aux_lemma => kernel_rfl) rfl #[.slice A1_3 l1_3.length c1_3] rfl ?_; (with_reducible refine (salvorlaw16_Few.calls _ _ l1_3 true _ ?side1 ?side2 A8.out).mono ?_); (case side1 => exact cb_ HR1_3 HB); (case side2 => exact HC1_3.out); rintro e w' ⟨rfl, ⟨nd, rfl⟩⟩; refine ⟨_, rfl, ?_⟩; have hcz21_0 : w7.cell? ⟨gb530, 0, none⟩ = some (.int .i64 a0_0) := (blk_cell BK530.out 0).trans rfl; have hcz21_1 : w7.cell? ⟨gb530, 1, none⟩ = some (.int .i64 a0_1) := (blk_cell BK530.out 1).trans rfl; have hcz21_2 : w7.cell? ⟨gb530, 2, none⟩ = some (.bool a0_2) := (blk_cell BK530.out 2).trans rfl; have hfz21_0 := blk_frozen BK530.out 0; have hfz21_1 := blk_frozen BK530.out 1; have hfz21_2 := blk_frozen BK530.out 2) | (go_at_call 14; (with_reducible refine (plan_May.calls a0_0 a0_1 a0_2 false _ A10.out).mono ?_); rintro e w22 ⟨rfl, hb⟩; replace BK530 := bb_ BK530 hb; replace BK531 := bb_ BK531 hb; replace HB := bs_ HB hb; (try clear hb); (try clear hb2); (try clear hk); (try clear hi)))
    go_meet
    case rel => exact ⟨_, (true), (by first | rfl | (simp; done) | (simp [*]; done)), H', ⟨by first | omega | exact Nat.le_refl _⟩, ⟨by (with_reducible repeat (first | refine blk_drewN ?_ _ | refine blk_drew ?_ | refine blk_alloc ?_ _)); exact BK530.out⟩, ⟨by (with_reducible repeat (first | refine blk_drewN ?_ _ | refine blk_drew ?_ | refine blk_alloc ?_ _)); exact BK531.out⟩, ⟨by repeat (first | (with_reducible first | exact HB.out | apply below_alloc | apply pw_below_drewN | apply below_drew1 | refine below_set ?_ GE530.out | refine below_set ?_ GE531.out) | exact HB.out)⟩⟩
  ·replace c9 := Bool.eq_false_iff.mpr c9
   subst c9
   have H1 : (salvorlaw18_PlanKeeps.j0 k a2 a3 true a0_0 a0_1 a0_2 a1_0 a1_1 a1_2 l1_3) = some r := by rw [if_neg (show ¬ (false = true) by decide)] at H; exact H
   clear H
   have H := H1
   clear H1
   have H' := Aside0.mk H
   clear H
   have hnb23 := NB531_530.out
   have hnc23 := NB530_531.out
   have hcz24_0 : w7.cell? ⟨gb531, 0, none⟩ = some (.int .i64 a1_0) := (blk_cell BK531.out 0).trans rfl
   have hcz24_1 : w7.cell? ⟨gb531, 1, none⟩ = some (.int .i64 a1_1) := (blk_cell BK531.out 1).trans rfl
   have hcz24_2 : w7.cell? ⟨gb531, 2, none⟩ = some (.int .u8 a1_2) := (blk_cell BK531.out 2).trans rfl
   have hcz24_3 : w7.cell? ⟨gb531, 3, none⟩ = some (.slice A1_3 l1_3.length c1_3) := (blk_cell BK531.out 3).trans rfl
   have hfz24_0 := blk_frozen BK531.out 0
   have hfz24_1 := blk_frozen BK531.out 1
   have hfz24_2 := blk_frozen BK531.out 2
   have hfz24_3 := blk_frozen BK531.out 3
   go_wp2_with (first | ((with_reducible refine gate_callee (f := 15) rfl ?_); refine gl_ (some 18) rfl rfl Try.func15 (by as_aux_lemma => kernel_rfl) rfl #[.slice A1_3 l1_3.length c1_3] rfl ?_; (with_reducible refine (salvorlaw16_Few.calls _ _ l1_3 false _ ?side1 ?side2 A8.out).mono ?_); (case side1 => exact cb_ HR1_3 HB); (case side2 => exact HC1_3.out); rintro e w' ⟨rfl, ⟨nd, rfl⟩⟩; refine ⟨_, rfl, ?_⟩))
   go_meet
   case rel => exact ⟨_, (true), (by first | rfl | (simp; done) | (simp [*]; done)), H', ⟨by first | omega | exact Nat.le_refl _⟩, ⟨by (with_reducible repeat (first | refine blk_drewN ?_ _ | refine blk_drew ?_ | refine blk_alloc ?_ _)); exact BK530.out⟩, ⟨by (with_reducible repeat (first | refine blk_drewN ?_ _ | refine blk_drew ?_ | refine blk_alloc ?_ _)); exact BK531.out⟩, ⟨by repeat (first | (with_reducible first | exact HB.out | apply below_alloc | apply pw_below_drewN | apply below_drew1 | refine below_set ?_ GE530.out | refine below_set ?_ GE531.out) | exact HB.out)⟩⟩
 case rest =>
  clear HC5
  try clear c1
  try clear c2
  try clear p2
  try clear c5
  try clear c9
  try clear c11
  try clear c13
  try clear c15
  try clear c19
  try clear c23
  try clear hcz14_0
  try clear hcz14_1
  try clear hcz14_2
  try clear hcz14_3
  try clear hcz15_0
  try clear hcz15_1
  try clear hcz15_2
  try clear hcz17_0
  try clear hcz17_1
  try clear hcz17_2
  try clear hcz17_3
  try clear hcz20_0
  try clear hcz20_1
  try clear hcz20_2
  try clear hcz20_3
  try clear hcz21_0
  try clear hcz21_1
  try clear hcz21_2
  try clear hcz24_0
  try clear hcz24_1
  try clear hcz24_2
  try clear hcz24_3
  try clear hfz14_0
  try clear hfz14_1
  try clear hfz14_2
  try clear hfz14_3
  try clear hfz15_0
  try clear hfz15_1
  try clear hfz15_2
  try clear hfz17_0
  try clear hfz17_1
  try clear hfz17_2
  try clear hfz17_3
  try clear hfz20_0
  try clear hfz20_1
  try clear hfz20_2
  try clear hfz20_3
  try clear hfz21_0
  try clear hfz21_1
  try clear hfz21_2
  try clear hfz24_0
  try clear hfz24_1
  try clear hfz24_2
  try clear hfz24_3
  obtain ⟨kq, x29_4, rfl, HA, HJ4, BK530, BK531, HB⟩ := hcut
  cases kq with
  | zero => exact absurd HA.out (by simp [salvorlaw18_PlanKeeps.j0])
  | succ kj4 =>
   have H := HA.out
   clear HA
   simp only [salvorlaw18_PlanKeeps.j0] at H
   by_cases c25 : x29_4 = true
   ·subst c25
    have H1 : ((salvorlaw18_PlanRuns.f kj4).bind fun t535 => (some t535)) = some r := by rw [if_pos rfl] at H; exact H
    clear H
    have H := H1
    clear H1
    replace H := Option.bind_eq_some_iff.mp H
    obtain ⟨t535, A260, H⟩ := H
    replace H : (some t535) = some r := H
    have A26 := Aside0.mk A260
    clear A260
    obtain rfl := Option.some.inj H
    go_wp2_with (first | ((with_reducible refine gate_callee (f := 3) rfl ?_); refine gl_ (some 30) rfl rfl Try.func3 (by as_aux_lemma => kernel_rfl) rfl #[] rfl ?_; (with_reducible refine (salvorlaw18_PlanRuns.calls kj4  t535 _ A26.out).mono ?_); rintro e w27 ⟨rfl, hb⟩; refine ⟨_, rfl, ?_⟩; replace BK530 := bb_ BK530 hb; replace BK531 := bb_ BK531 hb; replace HB := bs_ HB hb; (try clear hb); (try clear hb2); (try clear hk); (try clear hi)))
    go_ret
    exact ⟨by first | rfl | (simp [errW_none, errW_some] <;> rfl) | (simp [*, errW_none, errW_some] <;> rfl), bh_ HB⟩
   ·replace c25 := Bool.eq_false_iff.mpr c25
    subst c25
    have H1 : ((plan_Next.f kj4 a0_0 a0_1 a0_2 a1_0 a1_1 a1_2 l1_3).bind fun bt536 => ((plan_After.f kj4 a0_0 a0_1 a0_2 a1_0 a1_1 a1_2 l1_3 a2).bind fun bt540 => ((maptext_May.f kj4 bt540.1 bt540.2.1 bt540.2.2.1 bt540.2.2.2).bind fun t547 => (if t547 = true then ((region_End.f kj4 bt540.2.2.2).bind fun t548 => ((region_End.f kj4 l1_3).bind fun t549 => (if t548 = t549 then (if bt536.1 = 0 then (salvorlaw18_PlanKeeps.j1 kj4 a3 false a1_0 a1_1 a1_2 l1_3 bt536.1 bt536.2.1 bt536.2.2 bt540.1 bt540.2.1 bt540.2.2.1 bt540.2.2.2) else (if bt536.2.2 < 1 then (salvorlaw18_PlanKeeps.j1 kj4 a3 true a1_0 a1_1 a1_2 l1_3 bt536.1 bt536.2.1 bt536.2.2 bt540.1 bt540.2.1 bt540.2.2.1 bt540.2.2.2) else (if bt536.2.2 > 4096 then (salvorlaw18_PlanKeeps.j1 kj4 a3 true a1_0 a1_1 a1_2 l1_3 bt536.1 bt536.2.1 bt536.2.2 bt540.1 bt540.2.1 bt540.2.2.1 bt540.2.2.2) else (if bt536.2.1 < 0 then (salvorlaw18_PlanKeeps.j1 kj4 a3 true a1_0 a1_1 a1_2 l1_3 bt536.1 bt536.2.1 bt536.2.2 bt540.1 bt540.2.1 bt540.2.2.1 bt540.2.2.2) else ((region_End.f kj4 l1_3).bind fun t550 => (salvorlaw18_PlanKeeps.j1 kj4 a3 (decide ((wrap64 (bt536.2.1 + bt536.2.2)) > t550)) a1_0 a1_1 a1_2 l1_3 bt536.1 bt536.2.1 bt536.2.2 bt540.1 bt540.2.1 bt540.2.2.1 bt540.2.2.2)))))) else (salvorlaw18_PlanKeeps.j1 kj4 a3 true a1_0 a1_1 a1_2 l1_3 bt536.1 bt536.2.1 bt536.2.2 bt540.1 bt540.2.1 bt540.2.2.1 bt540.2.2.2)))) else (salvorlaw18_PlanKeeps.j1 kj4 a3 true a1_0 a1_1 a1_2 l1_3 bt536.1 bt536.2.1 bt536.2.2 bt540.1 bt540.2.1 bt540.2.2.1 bt540.2.2.2))))) = some r := by rw [if_neg (show ¬ (false = true) by decide)] at H; exact H
    clear H
    have H := H1
    clear H1
    replace H := Option.bind_eq_some_iff.mp H
    obtain ⟨⟨t536, t537, t538⟩, A280, H⟩ := H
    replace H : ((plan_After.f kj4 a0_0 a0_1 a0_2 a1_0 a1_1 a1_2 l1_3 a2).bind fun bt540 => ((maptext_May.f kj4 bt540.1 bt540.2.1 bt540.2.2.1 bt540.2.2.2).bind fun t547 => (if t547 = true then ((region_End.f kj4 bt540.2.2.2).bind fun t548 => ((region_End.f kj4 l1_3).bind fun t549 => (if t548 = t549 then (if t536 = 0 then (salvorlaw18_PlanKeeps.j1 kj4 a3 false a1_0 a1_1 a1_2 l1_3 t536 t537 t538 bt540.1 bt540.2.1 bt540.2.2.1 bt540.2.2.2) else (if t538 < 1 then (salvorlaw18_PlanKeeps.j1 kj4 a3 true a1_0 a1_1 a1_2 l1_3 t536 t537 t538 bt540.1 bt540.2.1 bt540.2.2.1 bt540.2.2.2) else (if t538 > 4096 then (salvorlaw18_PlanKeeps.j1 kj4 a3 true a1_0 a1_1 a1_2 l1_3 t536 t537 t538 bt540.1 bt540.2.1 bt540.2.2.1 bt540.2.2.2) else (if t537 < 0 then (salvorlaw18_PlanKeeps.j1 kj4 a3 true a1_0 a1_1 a1_2 l1_3 t536 t537 t538 bt540.1 bt540.2.1 bt540.2.2.1 bt540.2.2.2) else ((region_End.f kj4 l1_3).bind fun t550 => (salvorlaw18_PlanKeeps.j1 kj4 a3 (decide ((wrap64 (t537 + t538)) > t550)) a1_0 a1_1 a1_2 l1_3 t536 t537 t538 bt540.1 bt540.2.1 bt540.2.2.1 bt540.2.2.2)))))) else (salvorlaw18_PlanKeeps.j1 kj4 a3 true a1_0 a1_1 a1_2 l1_3 t536 t537 t538 bt540.1 bt540.2.1 bt540.2.2.1 bt540.2.2.2)))) else (salvorlaw18_PlanKeeps.j1 kj4 a3 true a1_0 a1_1 a1_2 l1_3 t536 t537 t538 bt540.1 bt540.2.1 bt540.2.2.1 bt540.2.2.2)))) = some r := H
    have A28 := Aside0.mk A280
    clear A280
    replace H := Option.bind_eq_some_iff.mp H
    obtain ⟨⟨t540, t541, t542, t543⟩, A290, H⟩ := H
    replace H : ((maptext_May.f kj4 t540 t541 t542 t543).bind fun t547 => (if t547 = true then ((region_End.f kj4 t543).bind fun t548 => ((region_End.f kj4 l1_3).bind fun t549 => (if t548 = t549 then (if t536 = 0 then (salvorlaw18_PlanKeeps.j1 kj4 a3 false a1_0 a1_1 a1_2 l1_3 t536 t537 t538 t540 t541 t542 t543) else (if t538 < 1 then (salvorlaw18_PlanKeeps.j1 kj4 a3 true a1_0 a1_1 a1_2 l1_3 t536 t537 t538 t540 t541 t542 t543) else (if t538 > 4096 then (salvorlaw18_PlanKeeps.j1 kj4 a3 true a1_0 a1_1 a1_2 l1_3 t536 t537 t538 t540 t541 t542 t543) else (if t537 < 0 then (salvorlaw18_PlanKeeps.j1 kj4 a3 true a1_0 a1_1 a1_2 l1_3 t536 t537 t538 t540 t541 t542 t543) else ((region_End.f kj4 l1_3).bind fun t550 => (salvorlaw18_PlanKeeps.j1 kj4 a3 (decide ((wrap64 (t537 + t538)) > t550)) a1_0 a1_1 a1_2 l1_3 t536 t537 t538 t540 t541 t542 t543)))))) else (salvorlaw18_PlanKeeps.j1 kj4 a3 true a1_0 a1_1 a1_2 l1_3 t536 t537 t538 t540 t541 t542 t543)))) else (salvorlaw18_PlanKeeps.j1 kj4 a3 true a1_0 a1_1 a1_2 l1_3 t536 t537 t538 t540 t541 t542 t543))) = some r := H
    have A29 := Aside0.mk A290
    clear A290
    have HC30 := Aside0.mk H
    clear H
    have hnb31 := NB530_531.out
    have hnc31 := NB531_530.out
    have hcz32_0 : wc.cell? ⟨gb530, 0, none⟩ = some (.int .i64 a0_0) := (blk_cell BK530.out 0).trans rfl
    have hcz32_1 : wc.cell? ⟨gb530, 1, none⟩ = some (.int .i64 a0_1) := (blk_cell BK530.out 1).trans rfl
    have hcz32_2 : wc.cell? ⟨gb530, 2, none⟩ = some (.bool a0_2) := (blk_cell BK530.out 2).trans rfl
    have hfz32_0 := blk_frozen BK530.out 0
    have hfz32_1 := blk_frozen BK530.out 1
    have hfz32_2 := blk_frozen BK530.out 2
    have hcz33_0 : wc.cell? ⟨gb531, 0, none⟩ = some (.int .i64 a1_0) := (blk_cell BK531.out 0).trans rfl
    have hcz33_1 : wc.cell? ⟨gb531, 1, none⟩ = some (.int .i64 a1_1) := (blk_cell BK531.out 1).trans rfl
    have hcz33_2 : wc.cell? ⟨gb531, 2, none⟩ = some (.int .u8 a1_2) := (blk_cell BK531.out 2).trans rfl
    have hcz33_3 : wc.cell? ⟨gb531, 3, none⟩ = some (.slice A1_3 l1_3.length c1_3) := (blk_cell BK531.out 3).trans rfl
    have hfz33_0 := blk_frozen BK531.out 0
    have hfz33_1 := blk_frozen BK531.out 1
    have hfz33_2 := blk_frozen BK531.out 2
    have hfz33_3 := blk_frozen BK531.out 3
    go_upto_region 5 with (first | ((with_reducible refine gate_callee (f := 12) rfl ?_); refine gl_ (some 33) rfl rfl Try.func12 (by as_aux_lemma => kernel_rfl) rfl #[.agg #[.int .i64 a0_0, .int .i64 a0_1, .bool a0_2], .agg #[.int .i64 a1_0, .int .i64 a1_1, .int .u8 a1_2, .slice A1_3 l1_3.length c1_3]] rfl ?_; (with_reducible refine (plan_Next.calls kj4 a0_0 a0_1 a0_2 a1_0 a1_1 a1_2 _ _ l1_3 t536 t537 t538 _ ?side1 ?side2 A28.out).mono ?_); (case side1 => exact cb_ HR1_3 HB); (case side2 => exact HC1_3.out); rintro e w34 ⟨rfl, hb⟩; refine ⟨_, rfl, ?_⟩; replace BK530 := bb_ BK530 hb; replace BK531 := bb_ BK531 hb; replace HB := bs_ HB hb; (try clear hb); (try clear hb2); (try clear hk); (try clear hi)) | ((with_reducible refine gate_dst (N := 9) rfl ?_); refine box_e 9 #[.int .i64 0, .int .i64 0, .int .i64 0] 29 ?_; intro gb539 hg w35 hbox hb; have BK539 := Aside0.mk hbox; have GW539 := bg_ HB hg; have GE539 := bg_ HB hg; have NB530_539 := bn_ BK530 hg; have NB539_530 := bm_ BK530 hg; have NB531_539 := bn_ BK531 hg; have NB539_531 := bm_ BK531 hg; replace BK530 := bb_ BK530 hb; replace BK531 := bb_ BK531 hb; replace HB := bs_ HB hb; clear hb hbox hg; have hnb36 := NB539_530.out; have hnc36 := NB530_539.out; have hnb37 := NB539_531.out; have hnc37 := NB531_539.out; have hcz38_0 : w35.cell? ⟨gb539, 0, none⟩ = some (.int .i64 0) := (blk_cell BK539.out 0).trans rfl; have hcz38_1 : w35.cell? ⟨gb539, 1, none⟩ = some (.int .i64 0) := (blk_cell BK539.out 1).trans rfl; have hcz38_2 : w35.cell? ⟨gb539, 2, none⟩ = some (.int .i64 0) := (blk_cell BK539.out 2).trans rfl; have hfz38_0 := blk_frozen BK539.out 0; have hfz38_1 := blk_frozen BK539.out 1; have hfz38_2 := blk_frozen BK539.out 2; have hcz39_0 : w35.cell? ⟨gb530, 0, none⟩ = some (.int .i64 a0_0) := (blk_cell BK530.out 0).trans rfl; have hcz39_1 : w35.cell? ⟨gb530, 1, none⟩ = some (.int .i64 a0_1) := (blk_cell BK530.out 1).trans rfl; have hcz39_2 : w35.cell? ⟨gb530, 2, none⟩ = some (.bool a0_2) := (blk_cell BK530.out 2).trans rfl; have hfz39_0 := blk_frozen BK530.out 0; have hfz39_1 := blk_frozen BK530.out 1; have hfz39_2 := blk_frozen BK530.out 2; have hcz40_0 : w35.cell? ⟨gb531, 0, none⟩ = some (.int .i64 a1_0) := (blk_cell BK531.out 0).trans rfl; have hcz40_1 : w35.cell? ⟨gb531, 1, none⟩ = some (.int .i64 a1_1) := (blk_cell BK531.out 1).trans rfl; have hcz40_2 : w35.cell? ⟨gb531, 2, none⟩ = some (.int .u8 a1_2) := (blk_cell BK531.out 2).trans rfl; have hcz40_3 : w35.cell? ⟨gb531, 3, none⟩ = some (.slice A1_3 l1_3.length c1_3) := (blk_cell BK531.out 3).trans rfl; have hfz40_0 := blk_frozen BK531.out 0; have hfz40_1 := blk_frozen BK531.out 1; have hfz40_2 := blk_frozen BK531.out 2; have hfz40_3 := blk_frozen BK531.out 3) | ((with_reducible refine gate_callee (f := 13) rfl ?_); refine gl_ (some 37) rfl rfl Try.func13 (by as_aux_lemma => kernel_rfl) rfl #[.agg #[.int .i64 a0_0, .int .i64 a0_1, .bool a0_2], .agg #[.int .i64 a1_0, .int .i64 a1_1, .int .u8 a1_2, .slice A1_3 l1_3.length c1_3], .int .i64 a2] rfl ?_; (with_reducible refine (plan_After.calls kj4 a0_0 a0_1 a0_2 a1_0 a1_1 a1_2 _ _ l1_3 a2 t540 t541 t542 t543 _ ?side1 ?side2 A29.out).mono ?_); (case side1 => exact Kd.C_below HR1_3.out (bh_ HB)); (case side2 => exact HC1_3.out); rintro e w41 ⟨v544, rfl, ho0, hb⟩; refine ⟨_, rfl, ?_⟩; have HO545 := Aside0.mk (Kd.R_lower ho0 (below_size (bh_ HB))); replace BK530 := Aside0.mk (blk_below (g := gb530) (o := .cells #[.int .i64 a0_0, .int .i64 a0_1, .bool a0_2] 23 (0, 0)) (bp_ BK530) hb); replace BK531 := Aside0.mk (blk_below (g := gb531) (o := .cells #[.int .i64 a1_0, .int .i64 a1_1, .int .u8 a1_2, .slice A1_3 l1_3.length c1_3] 26 (0, 0)) (bp_ BK531) hb); replace BK539 := Aside0.mk (blk_below (g := gb539) (o := .cells #[.int .i64 t536, .int .i64 t537, .int .i64 t538] 29 (0, 0)) (bp_ BK539) hb); replace HB := bs_ HB hb; (try clear hb); (try clear hb2); (try clear hk); (try clear hi); (try clear ho0)) | ((with_reducible refine gate_dst (N := 10) rfl ?_); refine box_e 10 #[.int .i64 0, .int .i64 0, .int .u8 0, .slice none 0 0] 26 ?_; intro gb546 hg w42 hbox hb; have n0_ := Aside0.mk (Kd.R_below (by (with_reducible repeat (first | apply Kd.R_alloc | apply Kd.R_drewN | apply Kd.R_drew)); exact HO545.out) hb); have n1_ := bb_ BK530 hb; have n2_ := bb_ BK531 hb; have n3_ := bb_ BK539 hb; have n4_ := bs_ HB hb; have n5_ := Aside0.mk hbox; have n6_ := bg_ HB hg; have n7_ := bg_ HB hg; have n8_ := bn_ BK530 hg; have n9_ := bm_ BK530 hg; have n10_ := bn_ BK531 hg; have n11_ := bm_ BK531 hg; have n12_ := bn_ BK539 hg; have n13_ := bm_ BK539 hg; clear HO545; clear BK530; clear BK531; clear BK539; clear HB; have HO545 := n0_; have BK530 := n1_; have BK531 := n2_; have BK539 := n3_; have HB := n4_; have BK546 := n5_; have GW546 := n6_; have GE546 := n7_; have NB530_546 := n8_; have NB546_530 := n9_; have NB531_546 := n10_; have NB546_531 := n11_; have NB539_546 := n12_; have NB546_539 := n13_; clear n0_ n1_ n2_ n3_ n4_ n5_ n6_ n7_ n8_ n9_ n10_ n11_ n12_ n13_; clear hb hbox hg; have hnb43 := NB546_530.out; have hnc43 := NB530_546.out; have hnb44 := NB546_531.out; have hnc44 := NB531_546.out; have hnb45 := NB546_539.out; have hnc45 := NB539_546.out; have hcz46_0 : w42.cell? ⟨gb546, 0, none⟩ = some (.int .i64 0) := (blk_cell BK546.out 0).trans rfl; have hcz46_1 : w42.cell? ⟨gb546, 1, none⟩ = some (.int .i64 0) := (blk_cell BK546.out 1).trans rfl; have hcz46_2 : w42.cell? ⟨gb546, 2, none⟩ = some (.int .u8 0) := (blk_cell BK546.out 2).trans rfl; have hcz46_3 : w42.cell? ⟨gb546, 3, none⟩ = some (.slice none 0 0) := (blk_cell BK546.out 3).trans rfl; have hfz46_0 := blk_frozen BK546.out 0; have hfz46_1 := blk_frozen BK546.out 1; have hfz46_2 := blk_frozen BK546.out 2; have hfz46_3 := blk_frozen BK546.out 3; obtain ⟨Ao47, co47, eo47⟩ := Kd.R_slice HO545.out; subst eo47))
    (try simp only [Act.put, List.setIfInBounds_toArray, List.set_cons_zero, List.set_cons_succ])
    go_cut [80] (fun v80 wc => ∃ (kq : Nat) (x80_29 : Bool), v80 = .bool x80_29 ∧ Aside0 (salvorlaw18_PlanKeeps.j1 kq a3 x80_29 a1_0 a1_1 a1_2 l1_3 t536 t537 t538 t540 t541 t542 t543 = some r) ∧ Aside0 (kq ≤ kj4) ∧ Aside0 (Kd.R k33 33 wc w.heap.size (fun _ => True) (.slice Ao47 t543.length co47) t543) ∧ Aside0 (wc.heap[gb530]? = some (.cells #[.int .i64 a0_0, .int .i64 a0_1, .bool a0_2] 23 (0, 0))) ∧ Aside0 (wc.heap[gb531]? = some (.cells #[.int .i64 a1_0, .int .i64 a1_1, .int .u8 a1_2, (.slice A1_3 l1_3.length c1_3)] 26 (0, 0))) ∧ Aside0 (wc.heap[gb539]? = some (.cells #[.int .i64 t536, .int .i64 t537, .int .i64 t538] 29 (0, 0))) ∧ Aside0 (wc.heap[gb546]? = some (.cells #[.int .i64 t540, .int .i64 t541, .int .u8 t542, (.slice Ao47 t543.length co47)] 26 (0, 0))) ∧ Aside0 (Below w.heap.size w wc))
    case first =>
     have H := HC30.out
     clear HC30
     replace H := Option.bind_eq_some_iff.mp H
     obtain ⟨t547, A480, H⟩ := H
     replace H : (if t547 = true then ((region_End.f kj4 t543).bind fun t548 => ((region_End.f kj4 l1_3).bind fun t549 => (if t548 = t549 then (if t536 = 0 then (salvorlaw18_PlanKeeps.j1 kj4 a3 false a1_0 a1_1 a1_2 l1_3 t536 t537 t538 t540 t541 t542 t543) else (if t538 < 1 then (salvorlaw18_PlanKeeps.j1 kj4 a3 true a1_0 a1_1 a1_2 l1_3 t536 t537 t538 t540 t541 t542 t543) else (if t538 > 4096 then (salvorlaw18_PlanKeeps.j1 kj4 a3 true a1_0 a1_1 a1_2 l1_3 t536 t537 t538 t540 t541 t542 t543) else (if t537 < 0 then (salvorlaw18_PlanKeeps.j1 kj4 a3 true a1_0 a1_1 a1_2 l1_3 t536 t537 t538 t540 t541 t542 t543) else ((region_End.f kj4 l1_3).bind fun t550 => (salvorlaw18_PlanKeeps.j1 kj4 a3 (decide ((wrap64 (t537 + t538)) > t550)) a1_0 a1_1 a1_2 l1_3 t536 t537 t538 t540 t541 t542 t543)))))) else (salvorlaw18_PlanKeeps.j1 kj4 a3 true a1_0 a1_1 a1_2 l1_3 t536 t537 t538 t540 t541 t542 t543)))) else (salvorlaw18_PlanKeeps.j1 kj4 a3 true a1_0 a1_1 a1_2 l1_3 t536 t537 t538 t540 t541 t542 t543)) = some r := H
     have A48 := Aside0.mk A480
     clear A480
     by_cases c49 : t547 = true
     ·subst c49
      have H1 : ((region_End.f kj4 t543).bind fun t548 => ((region_End.f kj4 l1_3).bind fun t549 => (if t548 = t549 then (if t536 = 0 then (salvorlaw18_PlanKeeps.j1 kj4 a3 false a1_0 a1_1 a1_2 l1_3 t536 t537 t538 t540 t541 t542 t543) else (if t538 < 1 then (salvorlaw18_PlanKeeps.j1 kj4 a3 true a1_0 a1_1 a1_2 l1_3 t536 t537 t538 t540 t541 t542 t543) else (if t538 > 4096 then (salvorlaw18_PlanKeeps.j1 kj4 a3 true a1_0 a1_1 a1_2 l1_3 t536 t537 t538 t540 t541 t542 t543) else (if t537 < 0 then (salvorlaw18_PlanKeeps.j1 kj4 a3 true a1_0 a1_1 a1_2 l1_3 t536 t537 t538 t540 t541 t542 t543) else ((region_End.f kj4 l1_3).bind fun t550 => (salvorlaw18_PlanKeeps.j1 kj4 a3 (decide ((wrap64 (t537 + t538)) > t550)) a1_0 a1_1 a1_2 l1_3 t536 t537 t538 t540 t541 t542 t543)))))) else (salvorlaw18_PlanKeeps.j1 kj4 a3 true a1_0 a1_1 a1_2 l1_3 t536 t537 t538 t540 t541 t542 t543)))) = some r := by rw [if_pos rfl] at H; exact H
      clear H
      have H := H1
      clear H1
      replace H := Option.bind_eq_some_iff.mp H
      obtain ⟨t548, A500, H⟩ := H
      replace H : ((region_End.f kj4 l1_3).bind fun t549 => (if t548 = t549 then (if t536 = 0 then (salvorlaw18_PlanKeeps.j1 kj4 a3 false a1_0 a1_1 a1_2 l1_3 t536 t537 t538 t540 t541 t542 t543) else (if t538 < 1 then (salvorlaw18_PlanKeeps.j1 kj4 a3 true a1_0 a1_1 a1_2 l1_3 t536 t537 t538 t540 t541 t542 t543) else (if t538 > 4096 then (salvorlaw18_PlanKeeps.j1 kj4 a3 true a1_0 a1_1 a1_2 l1_3 t536 t537 t538 t540 t541 t542 t543) else (if t537 < 0 then (salvorlaw18_PlanKeeps.j1 kj4 a3 true a1_0 a1_1 a1_2 l1_3 t536 t537 t538 t540 t541 t542 t543) else ((region_End.f kj4 l1_3).bind fun t550 => (salvorlaw18_PlanKeeps.j1 kj4 a3 (decide ((wrap64 (t537 + t538)) > t550)) a1_0 a1_1 a1_2 l1_3 t536 t537 t538 t540 t541 t542 t543)))))) else (salvorlaw18_PlanKeeps.j1 kj4 a3 true a1_0 a1_1 a1_2 l1_3 t536 t537 t538 t540 t541 t542 t543))) = some r := H
      have A50 := Aside0.mk A500
      clear A500
      replace H := Option.bind_eq_some_iff.mp H
      obtain ⟨t549, A510, H⟩ := H
      replace H : (if t548 = t549 then (if t536 = 0 then (salvorlaw18_PlanKeeps.j1 kj4 a3 false a1_0 a1_1 a1_2 l1_3 t536 t537 t538 t540 t541 t542 t543) else (if t538 < 1 then (salvorlaw18_PlanKeeps.j1 kj4 a3 true a1_0 a1_1 a1_2 l1_3 t536 t537 t538 t540 t541 t542 t543) else (if t538 > 4096 then (salvorlaw18_PlanKeeps.j1 kj4 a3 true a1_0 a1_1 a1_2 l1_3 t536 t537 t538 t540 t541 t542 t543) else (if t537 < 0 then (salvorlaw18_PlanKeeps.j1 kj4 a3 true a1_0 a1_1 a1_2 l1_3 t536 t537 t538 t540 t541 t542 t543) else ((region_End.f kj4 l1_3).bind fun t550 => (salvorlaw18_PlanKeeps.j1 kj4 a3 (decide ((wrap64 (t537 + t538)) > t550)) a1_0 a1_1 a1_2 l1_3 t536 t537 t538 t540 t541 t542 t543)))))) else (salvorlaw18_PlanKeeps.j1 kj4 a3 true a1_0 a1_1 a1_2 l1_3 t536 t537 t538 t540 t541 t542 t543)) = some r := H
      have A51 := Aside0.mk A510
      clear A510
      by_cases c52 : t548 = t549
      ·rw [if_pos c52] at H
       have c52b0 : (t548 == t549) = true := beq_iff_eq.mpr c52
       have c52b1 : (t548 != t549) = false := bne_eq_false_iff_eq.mpr c52
       clear c52
       (first | rw [c52b0] | (simp only [i64_w, i32_w]; rw [c52b0]) | skip)
       by_cases c53 : t536 = 0
       ·rw [if_pos c53] at H
        have c53b0 : (t536 == 0) = true := beq_iff_eq.mpr c53
        have c53b1 : (t536 != 0) = false := bne_eq_false_iff_eq.mpr c53
        clear c53
        have H' := Aside0.mk H
        clear H
        try go_wp2
        have n0_ : Aside0 (Kd.R k33 33 ((((w42.setCell ⟨gb546, 0, none⟩ (.int .i64 t540)).setCell ⟨gb546, 1, none⟩ (.int .i64 t541)).setCell ⟨gb546, 2, none⟩ (.int .u8 t542)).setCell ⟨gb546, 3, none⟩ (.slice Ao47 t543.length co47)) w.heap.size (fun _ => True) (.slice Ao47 t543.length co47) t543) := ⟨by (with_reducible repeat (first | apply Kd.R_alloc | apply Kd.R_drewN | apply Kd.R_drew)); exact Kd.R_mono (Kd.R_far (p := ⟨gb546, 3, none⟩) (Kd.R_far (p := ⟨gb546, 2, none⟩) (Kd.R_far (p := ⟨gb546, 1, none⟩) (Kd.R_far (p := ⟨gb546, 0, none⟩) (Kd.R_types HO545.out BK546.out (by decide)) (fun _ hk => hk.2) (.int .i64 t540)) (fun _ hk => hk.2) (.int .i64 t541)) (fun _ hk => hk.2) (.int .u8 t542)) (fun _ hk => hk.2) (.slice Ao47 t543.length co47)) (fun _ hk => trivial)⟩
        have n1_ : Aside0 (((((w42.setCell ⟨gb546, 0, none⟩ (.int .i64 t540)).setCell ⟨gb546, 1, none⟩ (.int .i64 t541)).setCell ⟨gb546, 2, none⟩ (.int .u8 t542)).setCell ⟨gb546, 3, none⟩ (.slice Ao47 t543.length co47)).heap[gb530]? = some (.cells #[.int .i64 a0_0, .int .i64 a0_1, .bool a0_2] 23 (0, 0))) := ⟨by (with_reducible repeat (first | refine blk_drewN ?_ _ | refine blk_drew ?_ | refine blk_alloc ?_ _)); refine blk_far ?_ NB530_546.out _; (with_reducible repeat (first | refine blk_drewN ?_ _ | refine blk_drew ?_ | refine blk_alloc ?_ _)); refine blk_far ?_ NB530_546.out _; (with_reducible repeat (first | refine blk_drewN ?_ _ | refine blk_drew ?_ | refine blk_alloc ?_ _)); refine blk_far ?_ NB530_546.out _; (with_reducible repeat (first | refine blk_drewN ?_ _ | refine blk_drew ?_ | refine blk_alloc ?_ _)); refine blk_far ?_ NB530_546.out _; (with_reducible repeat (first | refine blk_drewN ?_ _ | refine blk_drew ?_ | refine blk_alloc ?_ _)); exact BK530.out⟩
        have n2_ : Aside0 (((((w42.setCell ⟨gb546, 0, none⟩ (.int .i64 t540)).setCell ⟨gb546, 1, none⟩ (.int .i64 t541)).setCell ⟨gb546, 2, none⟩ (.int .u8 t542)).setCell ⟨gb546, 3, none⟩ (.slice Ao47 t543.length co47)).heap[gb531]? = some (.cells #[.int .i64 a1_0, .int .i64 a1_1, .int .u8 a1_2, .slice A1_3 l1_3.length c1_3] 26 (0, 0))) := ⟨by (with_reducible repeat (first | refine blk_drewN ?_ _ | refine blk_drew ?_ | refine blk_alloc ?_ _)); refine blk_far ?_ NB531_546.out _; (with_reducible repeat (first | refine blk_drewN ?_ _ | refine blk_drew ?_ | refine blk_alloc ?_ _)); refine blk_far ?_ NB531_546.out _; (with_reducible repeat (first | refine blk_drewN ?_ _ | refine blk_drew ?_ | refine blk_alloc ?_ _)); refine blk_far ?_ NB531_546.out _; (with_reducible repeat (first | refine blk_drewN ?_ _ | refine blk_drew ?_ | refine blk_alloc ?_ _)); refine blk_far ?_ NB531_546.out _; (with_reducible repeat (first | refine blk_drewN ?_ _ | refine blk_drew ?_ | refine blk_alloc ?_ _)); exact BK531.out⟩
        have n3_ : Aside0 (((((w42.setCell ⟨gb546, 0, none⟩ (.int .i64 t540)).setCell ⟨gb546, 1, none⟩ (.int .i64 t541)).setCell ⟨gb546, 2, none⟩ (.int .u8 t542)).setCell ⟨gb546, 3, none⟩ (.slice Ao47 t543.length co47)).heap[gb539]? = some (.cells #[.int .i64 t536, .int .i64 t537, .int .i64 t538] 29 (0, 0))) := ⟨by (with_reducible repeat (first | refine blk_drewN ?_ _ | refine blk_drew ?_ | refine blk_alloc ?_ _)); refine blk_far ?_ NB539_546.out _; (with_reducible repeat (first | refine blk_drewN ?_ _ | refine blk_drew ?_ | refine blk_alloc ?_ _)); refine blk_far ?_ NB539_546.out _; (with_reducible repeat (first | refine blk_drewN ?_ _ | refine blk_drew ?_ | refine blk_alloc ?_ _)); refine blk_far ?_ NB539_546.out _; (with_reducible repeat (first | refine blk_drewN ?_ _ | refine blk_drew ?_ | refine blk_alloc ?_ _)); refine blk_far ?_ NB539_546.out _; (with_reducible repeat (first | refine blk_drewN ?_ _ | refine blk_drew ?_ | refine blk_alloc ?_ _)); exact BK539.out⟩
        have n4_ : Aside0 (((((w42.setCell ⟨gb546, 0, none⟩ (.int .i64 t540)).setCell ⟨gb546, 1, none⟩ (.int .i64 t541)).setCell ⟨gb546, 2, none⟩ (.int .u8 t542)).setCell ⟨gb546, 3, none⟩ (.slice Ao47 t543.length co47)).heap[gb546]? = some (.cells #[.int .i64 t540, .int .i64 t541, .int .u8 t542, .slice Ao47 t543.length co47] 26 (0, 0))) := ⟨by (with_reducible repeat (first | refine blk_drewN ?_ _ | refine blk_drew ?_ | refine blk_alloc ?_ _)); refine blk_put (cs := #[.int .i64 t540, .int .i64 t541, .int .u8 t542, .slice none 0 0]) ?_ 3 _ rfl; (with_reducible repeat (first | refine blk_drewN ?_ _ | refine blk_drew ?_ | refine blk_alloc ?_ _)); refine blk_put (cs := #[.int .i64 t540, .int .i64 t541, .int .u8 0, .slice none 0 0]) ?_ 2 _ rfl; (with_reducible repeat (first | refine blk_drewN ?_ _ | refine blk_drew ?_ | refine blk_alloc ?_ _)); refine blk_put (cs := #[.int .i64 t540, .int .i64 0, .int .u8 0, .slice none 0 0]) ?_ 1 _ rfl; (with_reducible repeat (first | refine blk_drewN ?_ _ | refine blk_drew ?_ | refine blk_alloc ?_ _)); refine blk_put (cs := #[.int .i64 0, .int .i64 0, .int .u8 0, .slice none 0 0]) ?_ 0 _ rfl; (with_reducible repeat (first | refine blk_drewN ?_ _ | refine blk_drew ?_ | refine blk_alloc ?_ _)); exact BK546.out⟩
        have n5_ : Aside0 (Below w.heap.size w ((((w42.setCell ⟨gb546, 0, none⟩ (.int .i64 t540)).setCell ⟨gb546, 1, none⟩ (.int .i64 t541)).setCell ⟨gb546, 2, none⟩ (.int .u8 t542)).setCell ⟨gb546, 3, none⟩ (.slice Ao47 t543.length co47))) := ⟨by repeat (first | (with_reducible first | exact HB.out | apply below_alloc | apply pw_below_drewN | apply below_drew1 | refine below_set ?_ GE530.out | refine below_set ?_ GE531.out | refine below_set ?_ GE539.out | refine below_set ?_ GE546.out) | exact HB.out)⟩
        (try clear HO545)
        (try clear BK530)
        (try clear BK531)
        (try clear BK539)
        (try clear BK546)
        (try clear HB)
        generalize ((((w42.setCell ⟨gb546, 0, none⟩ (.int .i64 t540)).setCell ⟨gb546, 1, none⟩ (.int .i64 t541)).setCell ⟨gb546, 2, none⟩ (.int .u8 t542)).setCell ⟨gb546, 3, none⟩ (.slice Ao47 t543.length co47)) = w54 at n0_ n1_ n2_ n3_ n4_ n5_ ⊢
        have HO545 := n0_
        have BK530 := n1_
        have BK531 := n2_
        have BK539 := n3_
        have BK546 := n4_
        have HB := n5_
        clear n0_ n1_ n2_ n3_ n4_ n5_
        replace HO545 := Aside0.mk (Kd.R_drew HO545.out)
        replace BK530 := Aside0.mk (blk_drew BK530.out)
        replace BK531 := Aside0.mk (blk_drew BK531.out)
        replace BK539 := Aside0.mk (blk_drew BK539.out)
        replace BK546 := Aside0.mk (blk_drew BK546.out)
        replace HB := Aside0.mk (below_drew1 HB.out)
        refine start_ (n := 43) (S := fun w' => w'.cell? ⟨gb546, 0, none⟩ = some (.int .i64 t540) ∧ w'.cell? ⟨gb546, 1, none⟩ = some (.int .i64 t541) ∧ w'.cell? ⟨gb546, 2, none⟩ = some (.int .u8 t542) ∧ w'.cell? ⟨gb546, 3, none⟩ = some (.slice Ao47 t543.length co47) ∧ w'.cell? ⟨gb531, 0, none⟩ = some (.int .i64 a1_0) ∧ w'.cell? ⟨gb531, 1, none⟩ = some (.int .i64 a1_1) ∧ w'.cell? ⟨gb531, 2, none⟩ = some (.int .u8 a1_2) ∧ w'.cell? ⟨gb531, 3, none⟩ = some (.slice A1_3 l1_3.length c1_3) ∧ w'.cell? ⟨gb539, 0, none⟩ = some (.int .i64 t536) ∧ w'.cell? ⟨gb539, 1, none⟩ = some (.int .i64 t537) ∧ w'.cell? ⟨gb539, 2, none⟩ = some (.int .i64 t538)) (ds := []) #[false, false, false, false, false, false, false, false, false, false, false, false, false, false, false, false, false, false, false, false, false, false, false, false, false, false, false, false, false, false, false, false, false, false, false, false, false, false, false, false, false, false, false] (by as_aux_lemma => kernel_rfl) rfl rfl ⟨(blk_cell BK546.out 0).trans rfl, (blk_cell BK546.out 1).trans rfl, (blk_cell BK546.out 2).trans rfl, (blk_cell BK546.out 3).trans rfl, (blk_cell BK531.out 0).trans rfl, (blk_cell BK531.out 1).trans rfl, (blk_cell BK531.out 2).trans rfl, (blk_cell BK531.out 3).trans rfl, (blk_cell BK539.out 0).trans rfl, (blk_cell BK539.out 1).trans rfl, (blk_cell BK539.out 2).trans rfl⟩ (fun hHeld => ?_); refine with_tabW salvorlaw18_PlanKeeps.tab5 salvorlaw18_PlanKeeps.bits5 (fun HT_ HW_ => ?_)
        generalize w54.drew = w55 at HO545 BK530 BK531 BK539 BK546 HB hHeld ⊢
        refine take_ (i := 0) (N := some 38) (v := ?_) (a' := ?_) #[true, false, false, false, false, false, false, false, false, false, false, false, false, false, false, false, false, false, false, false, false, false, false, false, false, false, false, false, false, false, false, false, false, false, false, false, false, false, false, false, false, false, false] rfl rfl (take_ofW HT_.out HW_.out (by as_aux_lemma => kernel_rfl)) (fun _ _ _ h => h) (Or.inl ⟨by rfl, ?_⟩) hHeld ?_ ?_
        rotate_left
        ·rintro w' ⟨s0, s1, s2, s3, s4, s5, s6, s7, s8, s9, s10⟩
         go_simp
         with_reducible rfl
        rotate_left
        ·simp only [Act.put, List.setIfInBounds_toArray, List.set_cons_zero, List.set_cons_succ, i64_w, i32_w]
         rfl
        refine one_ (i := 1) (N := some 39) #[true, true, false, false, false, false, false, false, false, false, false, false, false, false, false, false, false, false, false, false, false, false, false, false, false, false, false, false, false, false, false, false, false, false, false, false, false, false, false, false, false, false, false] rfl rfl (one_of HT_.out (by as_aux_lemma => kernel_rfl)) (by decide) (fun K hK => ?_)
        refine gq_ Try.func18 (by as_aux_lemma => kernel_rfl) rfl #[.agg #[.int .i64 t540, .int .i64 t541, .int .u8 t542, .slice Ao47 t543.length co47]] (by rfl) rfl rfl ?_
        with_reducible refine (maptext_May.calls kj4 t540 t541 t542 _ _ t543 true _ ?side1 ?side2 A48.out).mono ?_
        (case side1 => repeat (first | exact (Kd.R_reads' HO545.out).2.2 | (with_reducible refine Kd.C_alloc ?_ _) | (with_reducible refine Kd.C_drewN ?_ _) | (with_reducible refine Kd.C_drew ?_)))
        (case side2 => exact (Kd.R_reads' HO545.out).2.1)
        rintro e w56 ⟨rfl, hb⟩
        refine ⟨_, rfl, ?_⟩
        have n0_ := Aside0.mk (Kd.R_below (by (with_reducible repeat (first | apply Kd.R_alloc | apply Kd.R_drewN | apply Kd.R_drew)); exact HO545.out) hb)
        have n1_ := bb_ BK530 hb
        have n2_ := bb_ BK531 hb
        have n3_ := bb_ BK539 hb
        have n4_ := bb_ BK546 hb
        have n5_ := bs_ HB hb
        clear HO545
        clear BK530
        clear BK531
        clear BK539
        clear BK546
        clear HB
        have HO545 := n0_
        have BK530 := n1_
        have BK531 := n2_
        have BK539 := n3_
        have BK546 := n4_
        have HB := n5_
        clear n0_ n1_ n2_ n3_ n4_ n5_
        (try clear hb)
        (try clear hb2)
        (try clear hk)
        (try clear hi)
        refine hK.out _ _ ⟨(blk_cell BK546.out 0).trans rfl, (blk_cell BK546.out 1).trans rfl, (blk_cell BK546.out 2).trans rfl, (blk_cell BK546.out 3).trans rfl, (blk_cell BK531.out 0).trans rfl, (blk_cell BK531.out 1).trans rfl, (blk_cell BK531.out 2).trans rfl, (blk_cell BK531.out 3).trans rfl, (blk_cell BK539.out 0).trans rfl, (blk_cell BK539.out 1).trans rfl, (blk_cell BK539.out 2).trans rfl⟩ (fun hHeld => ?_)
        clear hK K
        refine norm_ (a' := ?_) ?_ ?_
        rotate_left
        ·show Act.put _ (some 39) _ = _
         simp only [Act.put, List.setIfInBounds_toArray, List.set_cons_zero, List.set_cons_succ, i64_w, i32_w]
         rfl
        refine pu_ 2 40 (lb_ 43 7) rfl rfl (any_of HT_.out (by as_aux_lemma => kernel_rfl)) ?_
        refine pu_ 3 41 (lb_ 43 15) rfl rfl (any_of HT_.out (by as_aux_lemma => kernel_rfl)) ?_
        refine pu_ 4 42 (lb_ 43 31) rfl rfl (any_of HT_.out (by as_aux_lemma => kernel_rfl)) ?_
        refine pu_ 7 45 (lb_ 43 159) rfl rfl (any_of HT_.out (by as_aux_lemma => kernel_rfl)) ?_
        refine take_ (i := 5) (N := some 43) (v := ?_) (a' := ?_) #[true, true, true, true, true, true, false, true, false, false, false, false, false, false, false, false, false, false, false, false, false, false, false, false, false, false, false, false, false, false, false, false, false, false, false, false, false, false, false, false, false, false, false] rfl rfl (take_ofW HT_.out HW_.out (by as_aux_lemma => kernel_rfl)) (fun _ _ _ h => h) (Or.inl ⟨by rfl, ?_⟩) hHeld ?_ ?_
        rotate_left
        ·rintro w' ⟨s0, s1, s2, s3, s4, s5, s6, s7, s8, s9, s10⟩
         go_simp
         with_reducible rfl
        rotate_left
        ·simp only [Act.put, List.setIfInBounds_toArray, List.set_cons_zero, List.set_cons_succ, i64_w, i32_w]
         rfl
        refine take_ (i := 8) (N := some 46) (v := ?_) (a' := ?_) #[true, true, true, true, true, true, false, true, true, false, false, false, false, false, false, false, false, false, false, false, false, false, false, false, false, false, false, false, false, false, false, false, false, false, false, false, false, false, false, false, false, false, false] rfl rfl (take_ofW HT_.out HW_.out (by as_aux_lemma => kernel_rfl)) (fun _ _ _ h => h) (Or.inl ⟨by rfl, ?_⟩) hHeld ?_ ?_
        rotate_left
        ·rintro w' ⟨s0, s1, s2, s3, s4, s5, s6, s7, s8, s9, s10⟩
         go_simp
         with_reducible rfl
        rotate_left
        ·simp only [Act.put, List.setIfInBounds_toArray, List.set_cons_zero, List.set_cons_succ, i64_w, i32_w]
         rfl
        refine one_ (i := 6) (N := some 44) #[true, true, true, true, true, true, true, true, true, false, false, false, false, false, false, false, false, false, false, false, false, false, false, false, false, false, false, false, false, false, false, false, false, false, false, false, false, false, false, false, false, false, false] rfl rfl (one_of HT_.out (by as_aux_lemma => kernel_rfl)) (by decide) (fun K hK => ?_)
        refine gq_ Try.func19 (by as_aux_lemma => kernel_rfl) rfl #[.slice Ao47 t543.length co47] (by rfl) rfl rfl ?_
        with_reducible refine (region_End.calls kj4 _ _ t543 t548 _ ?side1 ?side2 A50.out).mono ?_
        (case side1 => repeat (first | exact (Kd.R_reads' HO545.out).2.2 | (with_reducible refine Kd.C_alloc ?_ _) | (with_reducible refine Kd.C_drewN ?_ _) | (with_reducible refine Kd.C_drew ?_)))
        (case side2 => exact (Kd.R_reads' HO545.out).2.1)
        rintro e w57 ⟨rfl, hb⟩
        refine ⟨_, rfl, ?_⟩
        have n0_ := Aside0.mk (Kd.R_below (by (with_reducible repeat (first | apply Kd.R_alloc | apply Kd.R_drewN | apply Kd.R_drew)); exact HO545.out) hb)
        have n1_ := bb_ BK530 hb
        have n2_ := bb_ BK531 hb
        have n3_ := bb_ BK539 hb
        have n4_ := bb_ BK546 hb
        have n5_ := bs_ HB hb
        clear HO545
        clear BK530
        clear BK531
        clear BK539
        clear BK546
        clear HB
        have HO545 := n0_
        have BK530 := n1_
        have BK531 := n2_
        have BK539 := n3_
        have BK546 := n4_
        have HB := n5_
        clear n0_ n1_ n2_ n3_ n4_ n5_
        (try clear hb)
        (try clear hb2)
        (try clear hk)
        (try clear hi)
        refine hK.out _ _ ⟨(blk_cell BK546.out 0).trans rfl, (blk_cell BK546.out 1).trans rfl, (blk_cell BK546.out 2).trans rfl, (blk_cell BK546.out 3).trans rfl, (blk_cell BK531.out 0).trans rfl, (blk_cell BK531.out 1).trans rfl, (blk_cell BK531.out 2).trans rfl, (blk_cell BK531.out 3).trans rfl, (blk_cell BK539.out 0).trans rfl, (blk_cell BK539.out 1).trans rfl, (blk_cell BK539.out 2).trans rfl⟩ (fun hHeld => ?_)
        clear hK K
        refine norm_ (a' := ?_) ?_ ?_
        rotate_left
        ·show Act.put _ (some 44) _ = _
         simp only [Act.put, List.setIfInBounds_toArray, List.set_cons_zero, List.set_cons_succ, i64_w, i32_w]
         rfl
        refine one_ (i := 9) (N := some 47) #[true, true, true, true, true, true, true, true, true, true, false, false, false, false, false, false, false, false, false, false, false, false, false, false, false, false, false, false, false, false, false, false, false, false, false, false, false, false, false, false, false, false, false] rfl rfl (one_of HT_.out (by as_aux_lemma => kernel_rfl)) (by decide) (fun K hK => ?_)
        refine gq_ Try.func19 (by as_aux_lemma => kernel_rfl) rfl #[.slice A1_3 l1_3.length c1_3] (by rfl) rfl rfl ?_
        with_reducible refine (region_End.calls kj4 _ _ l1_3 t549 _ ?side1 ?side2 A51.out).mono ?_
        (case side1 => exact cb_ HR1_3 HB)
        (case side2 => exact HC1_3.out)
        rintro e w58 ⟨rfl, hb⟩
        refine ⟨_, rfl, ?_⟩
        have n0_ := Aside0.mk (Kd.R_below (by (with_reducible repeat (first | apply Kd.R_alloc | apply Kd.R_drewN | apply Kd.R_drew)); exact HO545.out) hb)
        have n1_ := bb_ BK530 hb
        have n2_ := bb_ BK531 hb
        have n3_ := bb_ BK539 hb
        have n4_ := bb_ BK546 hb
        have n5_ := bs_ HB hb
        clear HO545
        clear BK530
        clear BK531
        clear BK539
        clear BK546
        clear HB
        have HO545 := n0_
        have BK530 := n1_
        have BK531 := n2_
        have BK539 := n3_
        have BK546 := n4_
        have HB := n5_
        clear n0_ n1_ n2_ n3_ n4_ n5_
        (try clear hb)
        (try clear hb2)
        (try clear hk)
        (try clear hi)
        refine hK.out _ _ ⟨(blk_cell BK546.out 0).trans rfl, (blk_cell BK546.out 1).trans rfl, (blk_cell BK546.out 2).trans rfl, (blk_cell BK546.out 3).trans rfl, (blk_cell BK531.out 0).trans rfl, (blk_cell BK531.out 1).trans rfl, (blk_cell BK531.out 2).trans rfl, (blk_cell BK531.out 3).trans rfl, (blk_cell BK539.out 0).trans rfl, (blk_cell BK539.out 1).trans rfl, (blk_cell BK539.out 2).trans rfl⟩ (fun hHeld => ?_)
        clear hK K
        refine norm_ (a' := ?_) ?_ ?_
        rotate_left
        ·show Act.put _ (some 47) _ = _
         simp only [Act.put, List.setIfInBounds_toArray, List.set_cons_zero, List.set_cons_succ, i64_w, i32_w]
         rfl
        refine pu_ 10 48 (lb_ 43 2047) rfl rfl (any_of HT_.out (by as_aux_lemma => kernel_rfl)) ?_
        refine pu_ 11 49 (lb_ 43 4095) rfl rfl (any_of HT_.out (by as_aux_lemma => kernel_rfl)) ?_
        refine pu_ 12 50 (lb_ 43 8191) rfl rfl (any_of HT_.out (by as_aux_lemma => kernel_rfl)) ?_
        refine pu_ 13 51 (lb_ 43 16383) rfl rfl (any_of HT_.out (by as_aux_lemma => kernel_rfl)) ?_
        refine take_ (i := 14) (N := some 52) (v := ?_) (a' := ?_) #[true, true, true, true, true, true, true, true, true, true, true, true, true, true, true, false, false, false, false, false, false, false, false, false, false, false, false, false, false, false, false, false, false, false, false, false, false, false, false, false, false, false, false] rfl rfl (take_ofW HT_.out HW_.out (by as_aux_lemma => kernel_rfl)) (fun _ _ _ h => h) (Or.inl ⟨by rfl, ?_⟩) hHeld ?_ ?_
        rotate_left
        ·rintro w' ⟨s0, s1, s2, s3, s4, s5, s6, s7, s8, s9, s10⟩
         go_simp
         with_reducible rfl
        rotate_left
        ·simp only [Act.put, List.setIfInBounds_toArray, List.set_cons_zero, List.set_cons_succ, i64_w, i32_w]
         rfl
        refine pu_ 15 53 (lb_ 43 65535) rfl rfl (any_of HT_.out (by as_aux_lemma => kernel_rfl)) ?_
        refine pu_ 16 54 (lb_ 43 131071) rfl rfl (any_of HT_.out (by as_aux_lemma => kernel_rfl)) ?_
        refine pd_ 17 55 (lb_ 43 262143) rfl rfl (any_of HT_.out (by as_aux_lemma => kernel_rfl)) ?_
        refine pd_ 18 56 (lb_ 43 524287) rfl rfl (any_of HT_.out (by as_aux_lemma => kernel_rfl)) ?_
        refine pd_ 19 57 (lb_ 43 1048575) rfl rfl (any_of HT_.out (by as_aux_lemma => kernel_rfl)) ?_
        refine pd_ 20 58 (lb_ 43 2097151) rfl rfl (any_of HT_.out (by as_aux_lemma => kernel_rfl)) ?_
        refine pd_ 21 59 (lb_ 43 4194303) rfl rfl (any_of HT_.out (by as_aux_lemma => kernel_rfl)) ?_
        refine pd_ 22 60 (lb_ 43 8388607) rfl rfl (any_of HT_.out (by as_aux_lemma => kernel_rfl)) ?_
        refine pd_ 23 61 (lb_ 43 16777215) rfl rfl (any_of HT_.out (by as_aux_lemma => kernel_rfl)) ?_
        refine pd_ 24 62 (lb_ 43 33554431) rfl rfl (any_of HT_.out (by as_aux_lemma => kernel_rfl)) ?_
        refine pd_ 25 63 (lb_ 43 67108863) rfl rfl (any_of HT_.out (by as_aux_lemma => kernel_rfl)) ?_
        refine pd_ 26 64 (lb_ 43 134217727) rfl rfl (any_of HT_.out (by as_aux_lemma => kernel_rfl)) ?_
        refine pd_ 27 65 (lb_ 43 268435455) rfl rfl (any_of HT_.out (by as_aux_lemma => kernel_rfl)) ?_
        refine pd_ 28 66 (lb_ 43 536870911) rfl rfl (any_of HT_.out (by as_aux_lemma => kernel_rfl)) ?_
        refine pd_ 29 67 (lb_ 43 1073741823) rfl rfl (any_of HT_.out (by as_aux_lemma => kernel_rfl)) ?_
        refine pd_ 30 68 (lb_ 43 2147483647) rfl rfl (any_of HT_.out (by as_aux_lemma => kernel_rfl)) ?_
        refine pd_ 31 69 (lb_ 43 4294967295) rfl rfl (any_of HT_.out (by as_aux_lemma => kernel_rfl)) ?_
        refine pd_ 32 70 (lb_ 43 8589934591) rfl rfl (any_of HT_.out (by as_aux_lemma => kernel_rfl)) ?_
        refine pd_ 33 71 (lb_ 43 17179869183) rfl rfl (any_of HT_.out (by as_aux_lemma => kernel_rfl)) ?_
        refine pd_ 34 72 (lb_ 43 34359738367) rfl rfl (any_of HT_.out (by as_aux_lemma => kernel_rfl)) ?_
        refine pd_ 35 73 (lb_ 43 68719476735) rfl rfl (any_of HT_.out (by as_aux_lemma => kernel_rfl)) ?_
        refine pd_ 36 74 (lb_ 43 137438953471) rfl rfl (any_of HT_.out (by as_aux_lemma => kernel_rfl)) ?_
        refine pd_ 37 75 (lb_ 43 274877906943) rfl rfl (any_of HT_.out (by as_aux_lemma => kernel_rfl)) ?_
        refine pd_ 38 76 (lb_ 43 549755813887) rfl rfl (any_of HT_.out (by as_aux_lemma => kernel_rfl)) ?_
        refine pd_ 39 77 (lb_ 43 1099511627775) rfl rfl (any_of HT_.out (by as_aux_lemma => kernel_rfl)) ?_
        refine pd_ 40 78 (lb_ 43 2199023255551) rfl rfl (any_of HT_.out (by as_aux_lemma => kernel_rfl)) ?_
        refine pu_ 41 79 (lb_ 43 4398046511103) rfl rfl (any_of HT_.out (by as_aux_lemma => kernel_rfl)) ?_
        refine pu_ 42 80 (lb_ 43 8796093022207) rfl rfl (any_of HT_.out (by as_aux_lemma => kernel_rfl)) ?_
        refine done_ (done_of HT_.out (by as_aux_lemma => kernel_rfl)) ?_
        try go_wp2
        go_meet
        case rel => exact ⟨_, (false), (by first | rfl | (simp; done) | (simp [*]; done)), H', ⟨by have := HJ4.out; first | omega | exact Nat.le_refl _⟩, ⟨by (with_reducible repeat (first | apply Kd.R_alloc | apply Kd.R_drewN | apply Kd.R_drew)); exact HO545.out⟩, ⟨by (with_reducible repeat (first | refine blk_drewN ?_ _ | refine blk_drew ?_ | refine blk_alloc ?_ _)); exact BK530.out⟩, ⟨by (with_reducible repeat (first | refine blk_drewN ?_ _ | refine blk_drew ?_ | refine blk_alloc ?_ _)); exact BK531.out⟩, ⟨by (with_reducible repeat (first | refine blk_drewN ?_ _ | refine blk_drew ?_ | refine blk_alloc ?_ _)); exact BK539.out⟩, ⟨by (with_reducible repeat (first | refine blk_drewN ?_ _ | refine blk_drew ?_ | refine blk_alloc ?_ _)); exact BK546.out⟩, ⟨by repeat (first | (with_reducible first | exact HB.out | apply below_alloc | apply pw_below_drewN | apply below_drew1 | refine below_set ?_ GE530.out | refine below_set ?_ GE531.out | refine below_set ?_ GE539.out | refine below_set ?_ GE546.out) | exact HB.out)⟩⟩
       ·rw [if_neg c53] at H
        have c53b0 : (t536 == 0) = false := beq_eq_false_iff_ne.mpr c53
        have c53b1 : (t536 != 0) = true := bne_iff_ne.mpr c53
        by_cases c59 : t538 < 1
        ·rw [if_pos c59] at H
         have c59b0 : decide (t538 < 1) = true := decide_eq_true c59
         clear c59
         have H' := Aside0.mk H
         clear H
         try go_wp2
         have n0_ : Aside0 (Kd.R k33 33 ((((w42.setCell ⟨gb546, 0, none⟩ (.int .i64 t540)).setCell ⟨gb546, 1, none⟩ (.int .i64 t541)).setCell ⟨gb546, 2, none⟩ (.int .u8 t542)).setCell ⟨gb546, 3, none⟩ (.slice Ao47 t543.length co47)) w.heap.size (fun _ => True) (.slice Ao47 t543.length co47) t543) := ⟨by (with_reducible repeat (first | apply Kd.R_alloc | apply Kd.R_drewN | apply Kd.R_drew)); exact Kd.R_mono (Kd.R_far (p := ⟨gb546, 3, none⟩) (Kd.R_far (p := ⟨gb546, 2, none⟩) (Kd.R_far (p := ⟨gb546, 1, none⟩) (Kd.R_far (p := ⟨gb546, 0, none⟩) (Kd.R_types HO545.out BK546.out (by decide)) (fun _ hk => hk.2) (.int .i64 t540)) (fun _ hk => hk.2) (.int .i64 t541)) (fun _ hk => hk.2) (.int .u8 t542)) (fun _ hk => hk.2) (.slice Ao47 t543.length co47)) (fun _ hk => trivial)⟩
         have n1_ : Aside0 (((((w42.setCell ⟨gb546, 0, none⟩ (.int .i64 t540)).setCell ⟨gb546, 1, none⟩ (.int .i64 t541)).setCell ⟨gb546, 2, none⟩ (.int .u8 t542)).setCell ⟨gb546, 3, none⟩ (.slice Ao47 t543.length co47)).heap[gb530]? = some (.cells #[.int .i64 a0_0, .int .i64 a0_1, .bool a0_2] 23 (0, 0))) := ⟨by (with_reducible repeat (first | refine blk_drewN ?_ _ | refine blk_drew ?_ | refine blk_alloc ?_ _)); refine blk_far ?_ NB530_546.out _; (with_reducible repeat (first | refine blk_drewN ?_ _ | refine blk_drew ?_ | refine blk_alloc ?_ _)); refine blk_far ?_ NB530_546.out _; (with_reducible repeat (first | refine blk_drewN ?_ _ | refine blk_drew ?_ | refine blk_alloc ?_ _)); refine blk_far ?_ NB530_546.out _; (with_reducible repeat (first | refine blk_drewN ?_ _ | refine blk_drew ?_ | refine blk_alloc ?_ _)); refine blk_far ?_ NB530_546.out _; (with_reducible repeat (first | refine blk_drewN ?_ _ | refine blk_drew ?_ | refine blk_alloc ?_ _)); exact BK530.out⟩
         have n2_ : Aside0 (((((w42.setCell ⟨gb546, 0, none⟩ (.int .i64 t540)).setCell ⟨gb546, 1, none⟩ (.int .i64 t541)).setCell ⟨gb546, 2, none⟩ (.int .u8 t542)).setCell ⟨gb546, 3, none⟩ (.slice Ao47 t543.length co47)).heap[gb531]? = some (.cells #[.int .i64 a1_0, .int .i64 a1_1, .int .u8 a1_2, .slice A1_3 l1_3.length c1_3] 26 (0, 0))) := ⟨by (with_reducible repeat (first | refine blk_drewN ?_ _ | refine blk_drew ?_ | refine blk_alloc ?_ _)); refine blk_far ?_ NB531_546.out _; (with_reducible repeat (first | refine blk_drewN ?_ _ | refine blk_drew ?_ | refine blk_alloc ?_ _)); refine blk_far ?_ NB531_546.out _; (with_reducible repeat (first | refine blk_drewN ?_ _ | refine blk_drew ?_ | refine blk_alloc ?_ _)); refine blk_far ?_ NB531_546.out _; (with_reducible repeat (first | refine blk_drewN ?_ _ | refine blk_drew ?_ | refine blk_alloc ?_ _)); refine blk_far ?_ NB531_546.out _; (with_reducible repeat (first | refine blk_drewN ?_ _ | refine blk_drew ?_ | refine blk_alloc ?_ _)); exact BK531.out⟩
         have n3_ : Aside0 (((((w42.setCell ⟨gb546, 0, none⟩ (.int .i64 t540)).setCell ⟨gb546, 1, none⟩ (.int .i64 t541)).setCell ⟨gb546, 2, none⟩ (.int .u8 t542)).setCell ⟨gb546, 3, none⟩ (.slice Ao47 t543.length co47)).heap[gb539]? = some (.cells #[.int .i64 t536, .int .i64 t537, .int .i64 t538] 29 (0, 0))) := ⟨by (with_reducible repeat (first | refine blk_drewN ?_ _ | refine blk_drew ?_ | refine blk_alloc ?_ _)); refine blk_far ?_ NB539_546.out _; (with_reducible repeat (first | refine blk_drewN ?_ _ | refine blk_drew ?_ | refine blk_alloc ?_ _)); refine blk_far ?_ NB539_546.out _; (with_reducible repeat (first | refine blk_drewN ?_ _ | refine blk_drew ?_ | refine blk_alloc ?_ _)); refine blk_far ?_ NB539_546.out _; (with_reducible repeat (first | refine blk_drewN ?_ _ | refine blk_drew ?_ | refine blk_alloc ?_ _)); refine blk_far ?_ NB539_546.out _; (with_reducible repeat (first | refine blk_drewN ?_ _ | refine blk_drew ?_ | refine blk_alloc ?_ _)); exact BK539.out⟩
         have n4_ : Aside0 (((((w42.setCell ⟨gb546, 0, none⟩ (.int .i64 t540)).setCell ⟨gb546, 1, none⟩ (.int .i64 t541)).setCell ⟨gb546, 2, none⟩ (.int .u8 t542)).setCell ⟨gb546, 3, none⟩ (.slice Ao47 t543.length co47)).heap[gb546]? = some (.cells #[.int .i64 t540, .int .i64 t541, .int .u8 t542, .slice Ao47 t543.length co47] 26 (0, 0))) := ⟨by (with_reducible repeat (first | refine blk_drewN ?_ _ | refine blk_drew ?_ | refine blk_alloc ?_ _)); refine blk_put (cs := #[.int .i64 t540, .int .i64 t541, .int .u8 t542, .slice none 0 0]) ?_ 3 _ rfl; (with_reducible repeat (first | refine blk_drewN ?_ _ | refine blk_drew ?_ | refine blk_alloc ?_ _)); refine blk_put (cs := #[.int .i64 t540, .int .i64 t541, .int .u8 0, .slice none 0 0]) ?_ 2 _ rfl; (with_reducible repeat (first | refine blk_drewN ?_ _ | refine blk_drew ?_ | refine blk_alloc ?_ _)); refine blk_put (cs := #[.int .i64 t540, .int .i64 0, .int .u8 0, .slice none 0 0]) ?_ 1 _ rfl; (with_reducible repeat (first | refine blk_drewN ?_ _ | refine blk_drew ?_ | refine blk_alloc ?_ _)); refine blk_put (cs := #[.int .i64 0, .int .i64 0, .int .u8 0, .slice none 0 0]) ?_ 0 _ rfl; (with_reducible repeat (first | refine blk_drewN ?_ _ | refine blk_drew ?_ | refine blk_alloc ?_ _)); exact BK546.out⟩
         have n5_ : Aside0 (Below w.heap.size w ((((w42.setCell ⟨gb546, 0, none⟩ (.int .i64 t540)).setCell ⟨gb546, 1, none⟩ (.int .i64 t541)).setCell ⟨gb546, 2, none⟩ (.int .u8 t542)).setCell ⟨gb546, 3, none⟩ (.slice Ao47 t543.length co47))) := ⟨by repeat (first | (with_reducible first | exact HB.out | apply below_alloc | apply pw_below_drewN | apply below_drew1 | refine below_set ?_ GE530.out | refine below_set ?_ GE531.out | refine below_set ?_ GE539.out | refine below_set ?_ GE546.out) | exact HB.out)⟩
         (try clear HO545)
         (try clear BK530)
         (try clear BK531)
         (try clear BK539)
         (try clear BK546)
         (try clear HB)
         generalize ((((w42.setCell ⟨gb546, 0, none⟩ (.int .i64 t540)).setCell ⟨gb546, 1, none⟩ (.int .i64 t541)).setCell ⟨gb546, 2, none⟩ (.int .u8 t542)).setCell ⟨gb546, 3, none⟩ (.slice Ao47 t543.length co47)) = w60 at n0_ n1_ n2_ n3_ n4_ n5_ ⊢
         have HO545 := n0_
         have BK530 := n1_
         have BK531 := n2_
         have BK539 := n3_
         have BK546 := n4_
         have HB := n5_
         clear n0_ n1_ n2_ n3_ n4_ n5_
         replace HO545 := Aside0.mk (Kd.R_drew HO545.out)
         replace BK530 := Aside0.mk (blk_drew BK530.out)
         replace BK531 := Aside0.mk (blk_drew BK531.out)
         replace BK539 := Aside0.mk (blk_drew BK539.out)
         replace BK546 := Aside0.mk (blk_drew BK546.out)
         replace HB := Aside0.mk (below_drew1 HB.out)
         refine start_ (n := 43) (S := fun w' => w'.cell? ⟨gb546, 0, none⟩ = some (.int .i64 t540) ∧ w'.cell? ⟨gb546, 1, none⟩ = some (.int .i64 t541) ∧ w'.cell? ⟨gb546, 2, none⟩ = some (.int .u8 t542) ∧ w'.cell? ⟨gb546, 3, none⟩ = some (.slice Ao47 t543.length co47) ∧ w'.cell? ⟨gb531, 0, none⟩ = some (.int .i64 a1_0) ∧ w'.cell? ⟨gb531, 1, none⟩ = some (.int .i64 a1_1) ∧ w'.cell? ⟨gb531, 2, none⟩ = some (.int .u8 a1_2) ∧ w'.cell? ⟨gb531, 3, none⟩ = some (.slice A1_3 l1_3.length c1_3) ∧ w'.cell? ⟨gb539, 0, none⟩ = some (.int .i64 t536) ∧ w'.cell? ⟨gb539, 1, none⟩ = some (.int .i64 t537) ∧ w'.cell? ⟨gb539, 2, none⟩ = some (.int .i64 t538)) (ds := []) #[false, false, false, false, false, false, false, false, false, false, false, false, false, false, false, false, false, false, false, false, false, false, false, false, false, false, false, false, false, false, false, false, false, false, false, false, false, false, false, false, false, false, false] (by as_aux_lemma => kernel_rfl) rfl rfl ⟨(blk_cell BK546.out 0).trans rfl, (blk_cell BK546.out 1).trans rfl, (blk_cell BK546.out 2).trans rfl, (blk_cell BK546.out 3).trans rfl, (blk_cell BK531.out 0).trans rfl, (blk_cell BK531.out 1).trans rfl, (blk_cell BK531.out 2).trans rfl, (blk_cell BK531.out 3).trans rfl, (blk_cell BK539.out 0).trans rfl, (blk_cell BK539.out 1).trans rfl, (blk_cell BK539.out 2).trans rfl⟩ (fun hHeld => ?_); refine with_tabW salvorlaw18_PlanKeeps.tab5 salvorlaw18_PlanKeeps.bits5 (fun HT_ HW_ => ?_)
         generalize w60.drew = w61 at HO545 BK530 BK531 BK539 BK546 HB hHeld ⊢
         refine take_ (i := 0) (N := some 38) (v := ?_) (a' := ?_) #[true, false, false, false, false, false, false, false, false, false, false, false, false, false, false, false, false, false, false, false, false, false, false, false, false, false, false, false, false, false, false, false, false, false, false, false, false, false, false, false, false, false, false] rfl rfl (take_ofW HT_.out HW_.out (by as_aux_lemma => kernel_rfl)) (fun _ _ _ h => h) (Or.inl ⟨by rfl, ?_⟩) hHeld ?_ ?_
         rotate_left
         ·rintro w' ⟨s0, s1, s2, s3, s4, s5, s6, s7, s8, s9, s10⟩
          go_simp
          with_reducible rfl
         rotate_left
         ·simp only [Act.put, List.setIfInBounds_toArray, List.set_cons_zero, List.set_cons_succ, i64_w, i32_w]
          rfl
         refine one_ (i := 1) (N := some 39) #[true, true, false, false, false, false, false, false, false, false, false, false, false, false, false, false, false, false, false, false, false, false, false, false, false, false, false, false, false, false, false, false, false, false, false, false, false, false, false, false, false, false, false] rfl rfl (one_of HT_.out (by as_aux_lemma => kernel_rfl)) (by decide) (fun K hK => ?_)
         refine gq_ Try.func18 (by as_aux_lemma => kernel_rfl) rfl #[.agg #[.int .i64 t540, .int .i64 t541, .int .u8 t542, .slice Ao47 t543.length co47]] (by rfl) rfl rfl ?_
         with_reducible refine (maptext_May.calls kj4 t540 t541 t542 _ _ t543 true _ ?side1 ?side2 A48.out).mono ?_
         (case side1 => repeat (first | exact (Kd.R_reads' HO545.out).2.2 | (with_reducible refine Kd.C_alloc ?_ _) | (with_reducible refine Kd.C_drewN ?_ _) | (with_reducible refine Kd.C_drew ?_)))
         (case side2 => exact (Kd.R_reads' HO545.out).2.1)
         rintro e w62 ⟨rfl, hb⟩
         refine ⟨_, rfl, ?_⟩
         have n0_ := Aside0.mk (Kd.R_below (by (with_reducible repeat (first | apply Kd.R_alloc | apply Kd.R_drewN | apply Kd.R_drew)); exact HO545.out) hb)
         have n1_ := bb_ BK530 hb
         have n2_ := bb_ BK531 hb
         have n3_ := bb_ BK539 hb
         have n4_ := bb_ BK546 hb
         have n5_ := bs_ HB hb
         clear HO545
         clear BK530
         clear BK531
         clear BK539
         clear BK546
         clear HB
         have HO545 := n0_
         have BK530 := n1_
         have BK531 := n2_
         have BK539 := n3_
         have BK546 := n4_
         have HB := n5_
         clear n0_ n1_ n2_ n3_ n4_ n5_
         (try clear hb)
         (try clear hb2)
         (try clear hk)
         (try clear hi)
         refine hK.out _ _ ⟨(blk_cell BK546.out 0).trans rfl, (blk_cell BK546.out 1).trans rfl, (blk_cell BK546.out 2).trans rfl, (blk_cell BK546.out 3).trans rfl, (blk_cell BK531.out 0).trans rfl, (blk_cell BK531.out 1).trans rfl, (blk_cell BK531.out 2).trans rfl, (blk_cell BK531.out 3).trans rfl, (blk_cell BK539.out 0).trans rfl, (blk_cell BK539.out 1).trans rfl, (blk_cell BK539.out 2).trans rfl⟩ (fun hHeld => ?_)
         clear hK K
         refine norm_ (a' := ?_) ?_ ?_
         rotate_left
         ·show Act.put _ (some 39) _ = _
          simp only [Act.put, List.setIfInBounds_toArray, List.set_cons_zero, List.set_cons_succ, i64_w, i32_w]
          rfl
         refine pu_ 2 40 (lb_ 43 7) rfl rfl (any_of HT_.out (by as_aux_lemma => kernel_rfl)) ?_
         refine pu_ 3 41 (lb_ 43 15) rfl rfl (any_of HT_.out (by as_aux_lemma => kernel_rfl)) ?_
         refine pu_ 4 42 (lb_ 43 31) rfl rfl (any_of HT_.out (by as_aux_lemma => kernel_rfl)) ?_
         refine pu_ 7 45 (lb_ 43 159) rfl rfl (any_of HT_.out (by as_aux_lemma => kernel_rfl)) ?_
         refine take_ (i := 5) (N := some 43) (v := ?_) (a' := ?_) #[true, true, true, true, true, true, false, true, false, false, false, false, false, false, false, false, false, false, false, false, false, false, false, false, false, false, false, false, false, false, false, false, false, false, false, false, false, false, false, false, false, false, false] rfl rfl (take_ofW HT_.out HW_.out (by as_aux_lemma => kernel_rfl)) (fun _ _ _ h => h) (Or.inl ⟨by rfl, ?_⟩) hHeld ?_ ?_
         rotate_left
         ·rintro w' ⟨s0, s1, s2, s3, s4, s5, s6, s7, s8, s9, s10⟩
          go_simp
          with_reducible rfl
         rotate_left
         ·simp only [Act.put, List.setIfInBounds_toArray, List.set_cons_zero, List.set_cons_succ, i64_w, i32_w]
          rfl
         refine take_ (i := 8) (N := some 46) (v := ?_) (a' := ?_) #[true, true, true, true, true, true, false, true, true, false, false, false, false, false, false, false, false, false, false, false, false, false, false, false, false, false, false, false, false, false, false, false, false, false, false, false, false, false, false, false, false, false, false] rfl rfl (take_ofW HT_.out HW_.out (by as_aux_lemma => kernel_rfl)) (fun _ _ _ h => h) (Or.inl ⟨by rfl, ?_⟩) hHeld ?_ ?_
         rotate_left
         ·rintro w' ⟨s0, s1, s2, s3, s4, s5, s6, s7, s8, s9, s10⟩
          go_simp
          with_reducible rfl
         rotate_left
         ·simp only [Act.put, List.setIfInBounds_toArray, List.set_cons_zero, List.set_cons_succ, i64_w, i32_w]
          rfl
         refine one_ (i := 6) (N := some 44) #[true, true, true, true, true, true, true, true, true, false, false, false, false, false, false, false, false, false, false, false, false, false, false, false, false, false, false, false, false, false, false, false, false, false, false, false, false, false, false, false, false, false, false] rfl rfl (one_of HT_.out (by as_aux_lemma => kernel_rfl)) (by decide) (fun K hK => ?_)
         refine gq_ Try.func19 (by as_aux_lemma => kernel_rfl) rfl #[.slice Ao47 t543.length co47] (by rfl) rfl rfl ?_
         with_reducible refine (region_End.calls kj4 _ _ t543 t548 _ ?side1 ?side2 A50.out).mono ?_
         (case side1 => repeat (first | exact (Kd.R_reads' HO545.out).2.2 | (with_reducible refine Kd.C_alloc ?_ _) | (with_reducible refine Kd.C_drewN ?_ _) | (with_reducible refine Kd.C_drew ?_)))
         (case side2 => exact (Kd.R_reads' HO545.out).2.1)
         rintro e w63 ⟨rfl, hb⟩
         refine ⟨_, rfl, ?_⟩
         have n0_ := Aside0.mk (Kd.R_below (by (with_reducible repeat (first | apply Kd.R_alloc | apply Kd.R_drewN | apply Kd.R_drew)); exact HO545.out) hb)
         have n1_ := bb_ BK530 hb
         have n2_ := bb_ BK531 hb
         have n3_ := bb_ BK539 hb
         have n4_ := bb_ BK546 hb
         have n5_ := bs_ HB hb
         clear HO545
         clear BK530
         clear BK531
         clear BK539
         clear BK546
         clear HB
         have HO545 := n0_
         have BK530 := n1_
         have BK531 := n2_
         have BK539 := n3_
         have BK546 := n4_
         have HB := n5_
         clear n0_ n1_ n2_ n3_ n4_ n5_
         (try clear hb)
         (try clear hb2)
         (try clear hk)
         (try clear hi)
         refine hK.out _ _ ⟨(blk_cell BK546.out 0).trans rfl, (blk_cell BK546.out 1).trans rfl, (blk_cell BK546.out 2).trans rfl, (blk_cell BK546.out 3).trans rfl, (blk_cell BK531.out 0).trans rfl, (blk_cell BK531.out 1).trans rfl, (blk_cell BK531.out 2).trans rfl, (blk_cell BK531.out 3).trans rfl, (blk_cell BK539.out 0).trans rfl, (blk_cell BK539.out 1).trans rfl, (blk_cell BK539.out 2).trans rfl⟩ (fun hHeld => ?_)
         clear hK K
         refine norm_ (a' := ?_) ?_ ?_
         rotate_left
         ·show Act.put _ (some 44) _ = _
          simp only [Act.put, List.setIfInBounds_toArray, List.set_cons_zero, List.set_cons_succ, i64_w, i32_w]
          rfl
         refine one_ (i := 9) (N := some 47) #[true, true, true, true, true, true, true, true, true, true, false, false, false, false, false, false, false, false, false, false, false, false, false, false, false, false, false, false, false, false, false, false, false, false, false, false, false, false, false, false, false, false, false] rfl rfl (one_of HT_.out (by as_aux_lemma => kernel_rfl)) (by decide) (fun K hK => ?_)
         refine gq_ Try.func19 (by as_aux_lemma => kernel_rfl) rfl #[.slice A1_3 l1_3.length c1_3] (by rfl) rfl rfl ?_
         with_reducible refine (region_End.calls kj4 _ _ l1_3 t549 _ ?side1 ?side2 A51.out).mono ?_
         (case side1 => exact cb_ HR1_3 HB)
         (case side2 => exact HC1_3.out)
         rintro e w64 ⟨rfl, hb⟩
         refine ⟨_, rfl, ?_⟩
         have n0_ := Aside0.mk (Kd.R_below (by (with_reducible repeat (first | apply Kd.R_alloc | apply Kd.R_drewN | apply Kd.R_drew)); exact HO545.out) hb)
         have n1_ := bb_ BK530 hb
         have n2_ := bb_ BK531 hb
         have n3_ := bb_ BK539 hb
         have n4_ := bb_ BK546 hb
         have n5_ := bs_ HB hb
         clear HO545
         clear BK530
         clear BK531
         clear BK539
         clear BK546
         clear HB
         have HO545 := n0_
         have BK530 := n1_
         have BK531 := n2_
         have BK539 := n3_
         have BK546 := n4_
         have HB := n5_
         clear n0_ n1_ n2_ n3_ n4_ n5_
         (try clear hb)
         (try clear hb2)
         (try clear hk)
         (try clear hi)
         refine hK.out _ _ ⟨(blk_cell BK546.out 0).trans rfl, (blk_cell BK546.out 1).trans rfl, (blk_cell BK546.out 2).trans rfl, (blk_cell BK546.out 3).trans rfl, (blk_cell BK531.out 0).trans rfl, (blk_cell BK531.out 1).trans rfl, (blk_cell BK531.out 2).trans rfl, (blk_cell BK531.out 3).trans rfl, (blk_cell BK539.out 0).trans rfl, (blk_cell BK539.out 1).trans rfl, (blk_cell BK539.out 2).trans rfl⟩ (fun hHeld => ?_)
         clear hK K
         refine norm_ (a' := ?_) ?_ ?_
         rotate_left
         ·show Act.put _ (some 47) _ = _
          simp only [Act.put, List.setIfInBounds_toArray, List.set_cons_zero, List.set_cons_succ, i64_w, i32_w]
          rfl
         refine pu_ 10 48 (lb_ 43 2047) rfl rfl (any_of HT_.out (by as_aux_lemma => kernel_rfl)) ?_
         refine pu_ 11 49 (lb_ 43 4095) rfl rfl (any_of HT_.out (by as_aux_lemma => kernel_rfl)) ?_
         refine pu_ 12 50 (lb_ 43 8191) rfl rfl (any_of HT_.out (by as_aux_lemma => kernel_rfl)) ?_
         refine pu_ 13 51 (lb_ 43 16383) rfl rfl (any_of HT_.out (by as_aux_lemma => kernel_rfl)) ?_
         refine take_ (i := 14) (N := some 52) (v := ?_) (a' := ?_) #[true, true, true, true, true, true, true, true, true, true, true, true, true, true, true, false, false, false, false, false, false, false, false, false, false, false, false, false, false, false, false, false, false, false, false, false, false, false, false, false, false, false, false] rfl rfl (take_ofW HT_.out HW_.out (by as_aux_lemma => kernel_rfl)) (fun _ _ _ h => h) (Or.inl ⟨by rfl, ?_⟩) hHeld ?_ ?_
         rotate_left
         ·rintro w' ⟨s0, s1, s2, s3, s4, s5, s6, s7, s8, s9, s10⟩
          go_simp
          with_reducible rfl
         rotate_left
         ·simp only [Act.put, List.setIfInBounds_toArray, List.set_cons_zero, List.set_cons_succ, i64_w, i32_w]
          rfl
         refine pu_ 15 53 (lb_ 43 65535) rfl rfl (any_of HT_.out (by as_aux_lemma => kernel_rfl)) ?_
         refine pu_ 16 54 (lb_ 43 131071) rfl rfl (any_of HT_.out (by as_aux_lemma => kernel_rfl)) ?_
         refine pu_ 17 55 (lb_ 43 262143) rfl rfl (any_of HT_.out (by as_aux_lemma => kernel_rfl)) ?_
         refine take_ (i := 18) (N := some 56) (v := ?_) (a' := ?_) #[true, true, true, true, true, true, true, true, true, true, true, true, true, true, true, true, true, true, true, false, false, false, false, false, false, false, false, false, false, false, false, false, false, false, false, false, false, false, false, false, false, false, false] rfl rfl (take_ofW HT_.out HW_.out (by as_aux_lemma => kernel_rfl)) (fun _ _ _ h => h) (Or.inl ⟨by rfl, ?_⟩) hHeld ?_ ?_
         rotate_left
         ·rintro w' ⟨s0, s1, s2, s3, s4, s5, s6, s7, s8, s9, s10⟩
          go_simp
          with_reducible rfl
         rotate_left
         ·simp only [Act.put, List.setIfInBounds_toArray, List.set_cons_zero, List.set_cons_succ, i64_w, i32_w]
          rfl
         refine pu_ 19 57 (lb_ 43 1048575) rfl rfl (any_of HT_.out (by as_aux_lemma => kernel_rfl)) ?_
         refine pu_ 20 58 (lb_ 43 2097151) rfl rfl (any_of HT_.out (by as_aux_lemma => kernel_rfl)) ?_
         refine pd_ 21 59 (lb_ 43 4194303) rfl rfl (any_of HT_.out (by as_aux_lemma => kernel_rfl)) ?_
         refine pd_ 22 60 (lb_ 43 8388607) rfl rfl (any_of HT_.out (by as_aux_lemma => kernel_rfl)) ?_
         refine pd_ 23 61 (lb_ 43 16777215) rfl rfl (any_of HT_.out (by as_aux_lemma => kernel_rfl)) ?_
         refine pu_ 24 62 (lb_ 43 33554431) rfl rfl (any_of HT_.out (by as_aux_lemma => kernel_rfl)) ?_
         refine pu_ 25 63 (lb_ 43 67108863) rfl rfl (any_of HT_.out (by as_aux_lemma => kernel_rfl)) ?_
         refine pd_ 26 64 (lb_ 43 134217727) rfl rfl (any_of HT_.out (by as_aux_lemma => kernel_rfl)) ?_
         refine pd_ 27 65 (lb_ 43 268435455) rfl rfl (any_of HT_.out (by as_aux_lemma => kernel_rfl)) ?_
         refine pd_ 28 66 (lb_ 43 536870911) rfl rfl (any_of HT_.out (by as_aux_lemma => kernel_rfl)) ?_
         refine pu_ 29 67 (lb_ 43 1073741823) rfl rfl (any_of HT_.out (by as_aux_lemma => kernel_rfl)) ?_
         refine pu_ 30 68 (lb_ 43 2147483647) rfl rfl (any_of HT_.out (by as_aux_lemma => kernel_rfl)) ?_
         refine pd_ 31 69 (lb_ 43 4294967295) rfl rfl (any_of HT_.out (by as_aux_lemma => kernel_rfl)) ?_
         refine pd_ 32 70 (lb_ 43 8589934591) rfl rfl (any_of HT_.out (by as_aux_lemma => kernel_rfl)) ?_
         refine pd_ 33 71 (lb_ 43 17179869183) rfl rfl (any_of HT_.out (by as_aux_lemma => kernel_rfl)) ?_
         refine pd_ 34 72 (lb_ 43 34359738367) rfl rfl (any_of HT_.out (by as_aux_lemma => kernel_rfl)) ?_
         refine pd_ 35 73 (lb_ 43 68719476735) rfl rfl (any_of HT_.out (by as_aux_lemma => kernel_rfl)) ?_
         refine pd_ 36 74 (lb_ 43 137438953471) rfl rfl (any_of HT_.out (by as_aux_lemma => kernel_rfl)) ?_
         refine pd_ 37 75 (lb_ 43 274877906943) rfl rfl (any_of HT_.out (by as_aux_lemma => kernel_rfl)) ?_
         refine pd_ 38 76 (lb_ 43 549755813887) rfl rfl (any_of HT_.out (by as_aux_lemma => kernel_rfl)) ?_
         refine pd_ 39 77 (lb_ 43 1099511627775) rfl rfl (any_of HT_.out (by as_aux_lemma => kernel_rfl)) ?_
         refine pu_ 40 78 (lb_ 43 2199023255551) rfl rfl (any_of HT_.out (by as_aux_lemma => kernel_rfl)) ?_
         refine pu_ 41 79 (lb_ 43 4398046511103) rfl rfl (any_of HT_.out (by as_aux_lemma => kernel_rfl)) ?_
         refine pu_ 42 80 (lb_ 43 8796093022207) rfl rfl (any_of HT_.out (by as_aux_lemma => kernel_rfl)) ?_
         refine done_ (done_of HT_.out (by as_aux_lemma => kernel_rfl)) ?_
         try go_wp2
         go_meet
         case rel => exact ⟨_, (true), (by first | rfl | (simp; done) | (simp [*]; done)), H', ⟨by have := HJ4.out; first | omega | exact Nat.le_refl _⟩, ⟨by (with_reducible repeat (first | apply Kd.R_alloc | apply Kd.R_drewN | apply Kd.R_drew)); exact HO545.out⟩, ⟨by (with_reducible repeat (first | refine blk_drewN ?_ _ | refine blk_drew ?_ | refine blk_alloc ?_ _)); exact BK530.out⟩, ⟨by (with_reducible repeat (first | refine blk_drewN ?_ _ | refine blk_drew ?_ | refine blk_alloc ?_ _)); exact BK531.out⟩, ⟨by (with_reducible repeat (first | refine blk_drewN ?_ _ | refine blk_drew ?_ | refine blk_alloc ?_ _)); exact BK539.out⟩, ⟨by (with_reducible repeat (first | refine blk_drewN ?_ _ | refine blk_drew ?_ | refine blk_alloc ?_ _)); exact BK546.out⟩, ⟨by repeat (first | (with_reducible first | exact HB.out | apply below_alloc | apply pw_below_drewN | apply below_drew1 | refine below_set ?_ GE530.out | refine below_set ?_ GE531.out | refine below_set ?_ GE539.out | refine below_set ?_ GE546.out) | exact HB.out)⟩⟩
        ·rw [if_neg c59] at H
         have c59b0 : decide (t538 < 1) = false := decide_eq_false c59
         clear c59
         by_cases c65 : t538 > 4096
         ·rw [if_pos c65] at H
          have c65b0 : decide (4096 < t538) = true := decide_eq_true c65
          clear c65
          have H' := Aside0.mk H
          clear H
          try go_wp2
          have n0_ : Aside0 (Kd.R k33 33 ((((w42.setCell ⟨gb546, 0, none⟩ (.int .i64 t540)).setCell ⟨gb546, 1, none⟩ (.int .i64 t541)).setCell ⟨gb546, 2, none⟩ (.int .u8 t542)).setCell ⟨gb546, 3, none⟩ (.slice Ao47 t543.length co47)) w.heap.size (fun _ => True) (.slice Ao47 t543.length co47) t543) := ⟨by (with_reducible repeat (first | apply Kd.R_alloc | apply Kd.R_drewN | apply Kd.R_drew)); exact Kd.R_mono (Kd.R_far (p := ⟨gb546, 3, none⟩) (Kd.R_far (p := ⟨gb546, 2, none⟩) (Kd.R_far (p := ⟨gb546, 1, none⟩) (Kd.R_far (p := ⟨gb546, 0, none⟩) (Kd.R_types HO545.out BK546.out (by decide)) (fun _ hk => hk.2) (.int .i64 t540)) (fun _ hk => hk.2) (.int .i64 t541)) (fun _ hk => hk.2) (.int .u8 t542)) (fun _ hk => hk.2) (.slice Ao47 t543.length co47)) (fun _ hk => trivial)⟩
          have n1_ : Aside0 (((((w42.setCell ⟨gb546, 0, none⟩ (.int .i64 t540)).setCell ⟨gb546, 1, none⟩ (.int .i64 t541)).setCell ⟨gb546, 2, none⟩ (.int .u8 t542)).setCell ⟨gb546, 3, none⟩ (.slice Ao47 t543.length co47)).heap[gb530]? = some (.cells #[.int .i64 a0_0, .int .i64 a0_1, .bool a0_2] 23 (0, 0))) := ⟨by (with_reducible repeat (first | refine blk_drewN ?_ _ | refine blk_drew ?_ | refine blk_alloc ?_ _)); refine blk_far ?_ NB530_546.out _; (with_reducible repeat (first | refine blk_drewN ?_ _ | refine blk_drew ?_ | refine blk_alloc ?_ _)); refine blk_far ?_ NB530_546.out _; (with_reducible repeat (first | refine blk_drewN ?_ _ | refine blk_drew ?_ | refine blk_alloc ?_ _)); refine blk_far ?_ NB530_546.out _; (with_reducible repeat (first | refine blk_drewN ?_ _ | refine blk_drew ?_ | refine blk_alloc ?_ _)); refine blk_far ?_ NB530_546.out _; (with_reducible repeat (first | refine blk_drewN ?_ _ | refine blk_drew ?_ | refine blk_alloc ?_ _)); exact BK530.out⟩
          have n2_ : Aside0 (((((w42.setCell ⟨gb546, 0, none⟩ (.int .i64 t540)).setCell ⟨gb546, 1, none⟩ (.int .i64 t541)).setCell ⟨gb546, 2, none⟩ (.int .u8 t542)).setCell ⟨gb546, 3, none⟩ (.slice Ao47 t543.length co47)).heap[gb531]? = some (.cells #[.int .i64 a1_0, .int .i64 a1_1, .int .u8 a1_2, .slice A1_3 l1_3.length c1_3] 26 (0, 0))) := ⟨by (with_reducible repeat (first | refine blk_drewN ?_ _ | refine blk_drew ?_ | refine blk_alloc ?_ _)); refine blk_far ?_ NB531_546.out _; (with_reducible repeat (first | refine blk_drewN ?_ _ | refine blk_drew ?_ | refine blk_alloc ?_ _)); refine blk_far ?_ NB531_546.out _; (with_reducible repeat (first | refine blk_drewN ?_ _ | refine blk_drew ?_ | refine blk_alloc ?_ _)); refine blk_far ?_ NB531_546.out _; (with_reducible repeat (first | refine blk_drewN ?_ _ | refine blk_drew ?_ | refine blk_alloc ?_ _)); refine blk_far ?_ NB531_546.out _; (with_reducible repeat (first | refine blk_drewN ?_ _ | refine blk_drew ?_ | refine blk_alloc ?_ _)); exact BK531.out⟩
          have n3_ : Aside0 (((((w42.setCell ⟨gb546, 0, none⟩ (.int .i64 t540)).setCell ⟨gb546, 1, none⟩ (.int .i64 t541)).setCell ⟨gb546, 2, none⟩ (.int .u8 t542)).setCell ⟨gb546, 3, none⟩ (.slice Ao47 t543.length co47)).heap[gb539]? = some (.cells #[.int .i64 t536, .int .i64 t537, .int .i64 t538] 29 (0, 0))) := ⟨by (with_reducible repeat (first | refine blk_drewN ?_ _ | refine blk_drew ?_ | refine blk_alloc ?_ _)); refine blk_far ?_ NB539_546.out _; (with_reducible repeat (first | refine blk_drewN ?_ _ | refine blk_drew ?_ | refine blk_alloc ?_ _)); refine blk_far ?_ NB539_546.out _; (with_reducible repeat (first | refine blk_drewN ?_ _ | refine blk_drew ?_ | refine blk_alloc ?_ _)); refine blk_far ?_ NB539_546.out _; (with_reducible repeat (first | refine blk_drewN ?_ _ | refine blk_drew ?_ | refine blk_alloc ?_ _)); refine blk_far ?_ NB539_546.out _; (with_reducible repeat (first | refine blk_drewN ?_ _ | refine blk_drew ?_ | refine blk_alloc ?_ _)); exact BK539.out⟩
          have n4_ : Aside0 (((((w42.setCell ⟨gb546, 0, none⟩ (.int .i64 t540)).setCell ⟨gb546, 1, none⟩ (.int .i64 t541)).setCell ⟨gb546, 2, none⟩ (.int .u8 t542)).setCell ⟨gb546, 3, none⟩ (.slice Ao47 t543.length co47)).heap[gb546]? = some (.cells #[.int .i64 t540, .int .i64 t541, .int .u8 t542, .slice Ao47 t543.length co47] 26 (0, 0))) := ⟨by (with_reducible repeat (first | refine blk_drewN ?_ _ | refine blk_drew ?_ | refine blk_alloc ?_ _)); refine blk_put (cs := #[.int .i64 t540, .int .i64 t541, .int .u8 t542, .slice none 0 0]) ?_ 3 _ rfl; (with_reducible repeat (first | refine blk_drewN ?_ _ | refine blk_drew ?_ | refine blk_alloc ?_ _)); refine blk_put (cs := #[.int .i64 t540, .int .i64 t541, .int .u8 0, .slice none 0 0]) ?_ 2 _ rfl; (with_reducible repeat (first | refine blk_drewN ?_ _ | refine blk_drew ?_ | refine blk_alloc ?_ _)); refine blk_put (cs := #[.int .i64 t540, .int .i64 0, .int .u8 0, .slice none 0 0]) ?_ 1 _ rfl; (with_reducible repeat (first | refine blk_drewN ?_ _ | refine blk_drew ?_ | refine blk_alloc ?_ _)); refine blk_put (cs := #[.int .i64 0, .int .i64 0, .int .u8 0, .slice none 0 0]) ?_ 0 _ rfl; (with_reducible repeat (first | refine blk_drewN ?_ _ | refine blk_drew ?_ | refine blk_alloc ?_ _)); exact BK546.out⟩
          have n5_ : Aside0 (Below w.heap.size w ((((w42.setCell ⟨gb546, 0, none⟩ (.int .i64 t540)).setCell ⟨gb546, 1, none⟩ (.int .i64 t541)).setCell ⟨gb546, 2, none⟩ (.int .u8 t542)).setCell ⟨gb546, 3, none⟩ (.slice Ao47 t543.length co47))) := ⟨by repeat (first | (with_reducible first | exact HB.out | apply below_alloc | apply pw_below_drewN | apply below_drew1 | refine below_set ?_ GE530.out | refine below_set ?_ GE531.out | refine below_set ?_ GE539.out | refine below_set ?_ GE546.out) | exact HB.out)⟩
          (try clear HO545)
          (try clear BK530)
          (try clear BK531)
          (try clear BK539)
          (try clear BK546)
          (try clear HB)
          generalize ((((w42.setCell ⟨gb546, 0, none⟩ (.int .i64 t540)).setCell ⟨gb546, 1, none⟩ (.int .i64 t541)).setCell ⟨gb546, 2, none⟩ (.int .u8 t542)).setCell ⟨gb546, 3, none⟩ (.slice Ao47 t543.length co47)) = w66 at n0_ n1_ n2_ n3_ n4_ n5_ ⊢
          have HO545 := n0_
          have BK530 := n1_
          have BK531 := n2_
          have BK539 := n3_
          have BK546 := n4_
          have HB := n5_
          clear n0_ n1_ n2_ n3_ n4_ n5_
          replace HO545 := Aside0.mk (Kd.R_drew HO545.out)
          replace BK530 := Aside0.mk (blk_drew BK530.out)
          replace BK531 := Aside0.mk (blk_drew BK531.out)
          replace BK539 := Aside0.mk (blk_drew BK539.out)
          replace BK546 := Aside0.mk (blk_drew BK546.out)
          replace HB := Aside0.mk (below_drew1 HB.out)
          refine start_ (n := 43) (S := fun w' => w'.cell? ⟨gb546, 0, none⟩ = some (.int .i64 t540) ∧ w'.cell? ⟨gb546, 1, none⟩ = some (.int .i64 t541) ∧ w'.cell? ⟨gb546, 2, none⟩ = some (.int .u8 t542) ∧ w'.cell? ⟨gb546, 3, none⟩ = some (.slice Ao47 t543.length co47) ∧ w'.cell? ⟨gb531, 0, none⟩ = some (.int .i64 a1_0) ∧ w'.cell? ⟨gb531, 1, none⟩ = some (.int .i64 a1_1) ∧ w'.cell? ⟨gb531, 2, none⟩ = some (.int .u8 a1_2) ∧ w'.cell? ⟨gb531, 3, none⟩ = some (.slice A1_3 l1_3.length c1_3) ∧ w'.cell? ⟨gb539, 0, none⟩ = some (.int .i64 t536) ∧ w'.cell? ⟨gb539, 1, none⟩ = some (.int .i64 t537) ∧ w'.cell? ⟨gb539, 2, none⟩ = some (.int .i64 t538)) (ds := []) #[false, false, false, false, false, false, false, false, false, false, false, false, false, false, false, false, false, false, false, false, false, false, false, false, false, false, false, false, false, false, false, false, false, false, false, false, false, false, false, false, false, false, false] (by as_aux_lemma => kernel_rfl) rfl rfl ⟨(blk_cell BK546.out 0).trans rfl, (blk_cell BK546.out 1).trans rfl, (blk_cell BK546.out 2).trans rfl, (blk_cell BK546.out 3).trans rfl, (blk_cell BK531.out 0).trans rfl, (blk_cell BK531.out 1).trans rfl, (blk_cell BK531.out 2).trans rfl, (blk_cell BK531.out 3).trans rfl, (blk_cell BK539.out 0).trans rfl, (blk_cell BK539.out 1).trans rfl, (blk_cell BK539.out 2).trans rfl⟩ (fun hHeld => ?_); refine with_tabW salvorlaw18_PlanKeeps.tab5 salvorlaw18_PlanKeeps.bits5 (fun HT_ HW_ => ?_)
          generalize w66.drew = w67 at HO545 BK530 BK531 BK539 BK546 HB hHeld ⊢
          refine take_ (i := 0) (N := some 38) (v := ?_) (a' := ?_) #[true, false, false, false, false, false, false, false, false, false, false, false, false, false, false, false, false, false, false, false, false, false, false, false, false, false, false, false, false, false, false, false, false, false, false, false, false, false, false, false, false, false, false] rfl rfl (take_ofW HT_.out HW_.out (by as_aux_lemma => kernel_rfl)) (fun _ _ _ h => h) (Or.inl ⟨by rfl, ?_⟩) hHeld ?_ ?_
          rotate_left
          ·rintro w' ⟨s0, s1, s2, s3, s4, s5, s6, s7, s8, s9, s10⟩
           go_simp
           with_reducible rfl
          rotate_left
          ·simp only [Act.put, List.setIfInBounds_toArray, List.set_cons_zero, List.set_cons_succ, i64_w, i32_w]
           rfl
          refine one_ (i := 1) (N := some 39) #[true, true, false, false, false, false, false, false, false, false, false, false, false, false, false, false, false, false, false, false, false, false, false, false, false, false, false, false, false, false, false, false, false, false, false, false, false, false, false, false, false, false, false] rfl rfl (one_of HT_.out (by as_aux_lemma => kernel_rfl)) (by decide) (fun K hK => ?_)
          refine gq_ Try.func18 (by as_aux_lemma => kernel_rfl) rfl #[.agg #[.int .i64 t540, .int .i64 t541, .int .u8 t542, .slice Ao47 t543.length co47]] (by rfl) rfl rfl ?_
          with_reducible refine (maptext_May.calls kj4 t540 t541 t542 _ _ t543 true _ ?side1 ?side2 A48.out).mono ?_
          (case side1 => repeat (first | exact (Kd.R_reads' HO545.out).2.2 | (with_reducible refine Kd.C_alloc ?_ _) | (with_reducible refine Kd.C_drewN ?_ _) | (with_reducible refine Kd.C_drew ?_)))
          (case side2 => exact (Kd.R_reads' HO545.out).2.1)
          rintro e w68 ⟨rfl, hb⟩
          refine ⟨_, rfl, ?_⟩
          have n0_ := Aside0.mk (Kd.R_below (by (with_reducible repeat (first | apply Kd.R_alloc | apply Kd.R_drewN | apply Kd.R_drew)); exact HO545.out) hb)
          have n1_ := bb_ BK530 hb
          have n2_ := bb_ BK531 hb
          have n3_ := bb_ BK539 hb
          have n4_ := bb_ BK546 hb
          have n5_ := bs_ HB hb
          clear HO545
          clear BK530
          clear BK531
          clear BK539
          clear BK546
          clear HB
          have HO545 := n0_
          have BK530 := n1_
          have BK531 := n2_
          have BK539 := n3_
          have BK546 := n4_
          have HB := n5_
          clear n0_ n1_ n2_ n3_ n4_ n5_
          (try clear hb)
          (try clear hb2)
          (try clear hk)
          (try clear hi)
          refine hK.out _ _ ⟨(blk_cell BK546.out 0).trans rfl, (blk_cell BK546.out 1).trans rfl, (blk_cell BK546.out 2).trans rfl, (blk_cell BK546.out 3).trans rfl, (blk_cell BK531.out 0).trans rfl, (blk_cell BK531.out 1).trans rfl, (blk_cell BK531.out 2).trans rfl, (blk_cell BK531.out 3).trans rfl, (blk_cell BK539.out 0).trans rfl, (blk_cell BK539.out 1).trans rfl, (blk_cell BK539.out 2).trans rfl⟩ (fun hHeld => ?_)
          clear hK K
          refine norm_ (a' := ?_) ?_ ?_
          rotate_left
          ·show Act.put _ (some 39) _ = _
           simp only [Act.put, List.setIfInBounds_toArray, List.set_cons_zero, List.set_cons_succ, i64_w, i32_w]
           rfl
          refine pu_ 2 40 (lb_ 43 7) rfl rfl (any_of HT_.out (by as_aux_lemma => kernel_rfl)) ?_
          refine pu_ 3 41 (lb_ 43 15) rfl rfl (any_of HT_.out (by as_aux_lemma => kernel_rfl)) ?_
          refine pu_ 4 42 (lb_ 43 31) rfl rfl (any_of HT_.out (by as_aux_lemma => kernel_rfl)) ?_
          refine pu_ 7 45 (lb_ 43 159) rfl rfl (any_of HT_.out (by as_aux_lemma => kernel_rfl)) ?_
          refine take_ (i := 5) (N := some 43) (v := ?_) (a' := ?_) #[true, true, true, true, true, true, false, true, false, false, false, false, false, false, false, false, false, false, false, false, false, false, false, false, false, false, false, false, false, false, false, false, false, false, false, false, false, false, false, false, false, false, false] rfl rfl (take_ofW HT_.out HW_.out (by as_aux_lemma => kernel_rfl)) (fun _ _ _ h => h) (Or.inl ⟨by rfl, ?_⟩) hHeld ?_ ?_
          rotate_left
          ·rintro w' ⟨s0, s1, s2, s3, s4, s5, s6, s7, s8, s9, s10⟩
           go_simp
           with_reducible rfl
          rotate_left
          ·simp only [Act.put, List.setIfInBounds_toArray, List.set_cons_zero, List.set_cons_succ, i64_w, i32_w]
           rfl
          refine take_ (i := 8) (N := some 46) (v := ?_) (a' := ?_) #[true, true, true, true, true, true, false, true, true, false, false, false, false, false, false, false, false, false, false, false, false, false, false, false, false, false, false, false, false, false, false, false, false, false, false, false, false, false, false, false, false, false, false] rfl rfl (take_ofW HT_.out HW_.out (by as_aux_lemma => kernel_rfl)) (fun _ _ _ h => h) (Or.inl ⟨by rfl, ?_⟩) hHeld ?_ ?_
          rotate_left
          ·rintro w' ⟨s0, s1, s2, s3, s4, s5, s6, s7, s8, s9, s10⟩
           go_simp
           with_reducible rfl
          rotate_left
          ·simp only [Act.put, List.setIfInBounds_toArray, List.set_cons_zero, List.set_cons_succ, i64_w, i32_w]
           rfl
          refine one_ (i := 6) (N := some 44) #[true, true, true, true, true, true, true, true, true, false, false, false, false, false, false, false, false, false, false, false, false, false, false, false, false, false, false, false, false, false, false, false, false, false, false, false, false, false, false, false, false, false, false] rfl rfl (one_of HT_.out (by as_aux_lemma => kernel_rfl)) (by decide) (fun K hK => ?_)
          refine gq_ Try.func19 (by as_aux_lemma => kernel_rfl) rfl #[.slice Ao47 t543.length co47] (by rfl) rfl rfl ?_
          with_reducible refine (region_End.calls kj4 _ _ t543 t548 _ ?side1 ?side2 A50.out).mono ?_
          (case side1 => repeat (first | exact (Kd.R_reads' HO545.out).2.2 | (with_reducible refine Kd.C_alloc ?_ _) | (with_reducible refine Kd.C_drewN ?_ _) | (with_reducible refine Kd.C_drew ?_)))
          (case side2 => exact (Kd.R_reads' HO545.out).2.1)
          rintro e w69 ⟨rfl, hb⟩
          refine ⟨_, rfl, ?_⟩
          have n0_ := Aside0.mk (Kd.R_below (by (with_reducible repeat (first | apply Kd.R_alloc | apply Kd.R_drewN | apply Kd.R_drew)); exact HO545.out) hb)
          have n1_ := bb_ BK530 hb
          have n2_ := bb_ BK531 hb
          have n3_ := bb_ BK539 hb
          have n4_ := bb_ BK546 hb
          have n5_ := bs_ HB hb
          clear HO545
          clear BK530
          clear BK531
          clear BK539
          clear BK546
          clear HB
          have HO545 := n0_
          have BK530 := n1_
          have BK531 := n2_
          have BK539 := n3_
          have BK546 := n4_
          have HB := n5_
          clear n0_ n1_ n2_ n3_ n4_ n5_
          (try clear hb)
          (try clear hb2)
          (try clear hk)
          (try clear hi)
          refine hK.out _ _ ⟨(blk_cell BK546.out 0).trans rfl, (blk_cell BK546.out 1).trans rfl, (blk_cell BK546.out 2).trans rfl, (blk_cell BK546.out 3).trans rfl, (blk_cell BK531.out 0).trans rfl, (blk_cell BK531.out 1).trans rfl, (blk_cell BK531.out 2).trans rfl, (blk_cell BK531.out 3).trans rfl, (blk_cell BK539.out 0).trans rfl, (blk_cell BK539.out 1).trans rfl, (blk_cell BK539.out 2).trans rfl⟩ (fun hHeld => ?_)
          clear hK K
          refine norm_ (a' := ?_) ?_ ?_
          rotate_left
          ·show Act.put _ (some 44) _ = _
           simp only [Act.put, List.setIfInBounds_toArray, List.set_cons_zero, List.set_cons_succ, i64_w, i32_w]
           rfl
          refine one_ (i := 9) (N := some 47) #[true, true, true, true, true, true, true, true, true, true, false, false, false, false, false, false, false, false, false, false, false, false, false, false, false, false, false, false, false, false, false, false, false, false, false, false, false, false, false, false, false, false, false] rfl rfl (one_of HT_.out (by as_aux_lemma => kernel_rfl)) (by decide) (fun K hK => ?_)
          refine gq_ Try.func19 (by as_aux_lemma => kernel_rfl) rfl #[.slice A1_3 l1_3.length c1_3] (by rfl) rfl rfl ?_
          with_reducible refine (region_End.calls kj4 _ _ l1_3 t549 _ ?side1 ?side2 A51.out).mono ?_
          (case side1 => exact cb_ HR1_3 HB)
          (case side2 => exact HC1_3.out)
          rintro e w70 ⟨rfl, hb⟩
          refine ⟨_, rfl, ?_⟩
          have n0_ := Aside0.mk (Kd.R_below (by (with_reducible repeat (first | apply Kd.R_alloc | apply Kd.R_drewN | apply Kd.R_drew)); exact HO545.out) hb)
          have n1_ := bb_ BK530 hb
          have n2_ := bb_ BK531 hb
          have n3_ := bb_ BK539 hb
          have n4_ := bb_ BK546 hb
          have n5_ := bs_ HB hb
          clear HO545
          clear BK530
          clear BK531
          clear BK539
          clear BK546
          clear HB
          have HO545 := n0_
          have BK530 := n1_
          have BK531 := n2_
          have BK539 := n3_
          have BK546 := n4_
          have HB := n5_
          clear n0_ n1_ n2_ n3_ n4_ n5_
          (try clear hb)
          (try clear hb2)
          (try clear hk)
          (try clear hi)
          refine hK.out _ _ ⟨(blk_cell BK546.out 0).trans rfl, (blk_cell BK546.out 1).trans rfl, (blk_cell BK546.out 2).trans rfl, (blk_cell BK546.out 3).trans rfl, (blk_cell BK531.out 0).trans rfl, (blk_cell BK531.out 1).trans rfl, (blk_cell BK531.out 2).trans rfl, (blk_cell BK531.out 3).trans rfl, (blk_cell BK539.out 0).trans rfl, (blk_cell BK539.out 1).trans rfl, (blk_cell BK539.out 2).trans rfl⟩ (fun hHeld => ?_)
          clear hK K
          refine norm_ (a' := ?_) ?_ ?_
          rotate_left
          ·show Act.put _ (some 47) _ = _
           simp only [Act.put, List.setIfInBounds_toArray, List.set_cons_zero, List.set_cons_succ, i64_w, i32_w]
           rfl
          refine pu_ 10 48 (lb_ 43 2047) rfl rfl (any_of HT_.out (by as_aux_lemma => kernel_rfl)) ?_
          refine pu_ 11 49 (lb_ 43 4095) rfl rfl (any_of HT_.out (by as_aux_lemma => kernel_rfl)) ?_
          refine pu_ 12 50 (lb_ 43 8191) rfl rfl (any_of HT_.out (by as_aux_lemma => kernel_rfl)) ?_
          refine pu_ 13 51 (lb_ 43 16383) rfl rfl (any_of HT_.out (by as_aux_lemma => kernel_rfl)) ?_
          refine take_ (i := 14) (N := some 52) (v := ?_) (a' := ?_) #[true, true, true, true, true, true, true, true, true, true, true, true, true, true, true, false, false, false, false, false, false, false, false, false, false, false, false, false, false, false, false, false, false, false, false, false, false, false, false, false, false, false, false] rfl rfl (take_ofW HT_.out HW_.out (by as_aux_lemma => kernel_rfl)) (fun _ _ _ h => h) (Or.inl ⟨by rfl, ?_⟩) hHeld ?_ ?_
          rotate_left
          ·rintro w' ⟨s0, s1, s2, s3, s4, s5, s6, s7, s8, s9, s10⟩
           go_simp
           with_reducible rfl
          rotate_left
          ·simp only [Act.put, List.setIfInBounds_toArray, List.set_cons_zero, List.set_cons_succ, i64_w, i32_w]
           rfl
          refine pu_ 15 53 (lb_ 43 65535) rfl rfl (any_of HT_.out (by as_aux_lemma => kernel_rfl)) ?_
          refine pu_ 16 54 (lb_ 43 131071) rfl rfl (any_of HT_.out (by as_aux_lemma => kernel_rfl)) ?_
          refine pu_ 17 55 (lb_ 43 262143) rfl rfl (any_of HT_.out (by as_aux_lemma => kernel_rfl)) ?_
          refine take_ (i := 18) (N := some 56) (v := ?_) (a' := ?_) #[true, true, true, true, true, true, true, true, true, true, true, true, true, true, true, true, true, true, true, false, false, false, false, false, false, false, false, false, false, false, false, false, false, false, false, false, false, false, false, false, false, false, false] rfl rfl (take_ofW HT_.out HW_.out (by as_aux_lemma => kernel_rfl)) (fun _ _ _ h => h) (Or.inl ⟨by rfl, ?_⟩) hHeld ?_ ?_
          rotate_left
          ·rintro w' ⟨s0, s1, s2, s3, s4, s5, s6, s7, s8, s9, s10⟩
           go_simp
           with_reducible rfl
          rotate_left
          ·simp only [Act.put, List.setIfInBounds_toArray, List.set_cons_zero, List.set_cons_succ, i64_w, i32_w]
           rfl
          refine pu_ 19 57 (lb_ 43 1048575) rfl rfl (any_of HT_.out (by as_aux_lemma => kernel_rfl)) ?_
          refine pu_ 20 58 (lb_ 43 2097151) rfl rfl (any_of HT_.out (by as_aux_lemma => kernel_rfl)) ?_
          refine pu_ 21 59 (lb_ 43 4194303) rfl rfl (any_of HT_.out (by as_aux_lemma => kernel_rfl)) ?_
          refine take_ (i := 22) (N := some 60) (v := ?_) (a' := ?_) #[true, true, true, true, true, true, true, true, true, true, true, true, true, true, true, true, true, true, true, true, true, true, true, false, false, false, false, false, false, false, false, false, false, false, false, false, false, false, false, false, false, false, false] rfl rfl (take_ofW HT_.out HW_.out (by as_aux_lemma => kernel_rfl)) (fun _ _ _ h => h) (Or.inl ⟨by rfl, ?_⟩) hHeld ?_ ?_
          rotate_left
          ·rintro w' ⟨s0, s1, s2, s3, s4, s5, s6, s7, s8, s9, s10⟩
           go_simp
           with_reducible rfl
          rotate_left
          ·simp only [Act.put, List.setIfInBounds_toArray, List.set_cons_zero, List.set_cons_succ, i64_w, i32_w]
           rfl
          refine pu_ 23 61 (lb_ 43 16777215) rfl rfl (any_of HT_.out (by as_aux_lemma => kernel_rfl)) ?_
          refine pu_ 24 62 (lb_ 43 33554431) rfl rfl (any_of HT_.out (by as_aux_lemma => kernel_rfl)) ?_
          refine pu_ 25 63 (lb_ 43 67108863) rfl rfl (any_of HT_.out (by as_aux_lemma => kernel_rfl)) ?_
          refine pd_ 26 64 (lb_ 43 134217727) rfl rfl (any_of HT_.out (by as_aux_lemma => kernel_rfl)) ?_
          refine pd_ 27 65 (lb_ 43 268435455) rfl rfl (any_of HT_.out (by as_aux_lemma => kernel_rfl)) ?_
          refine pd_ 28 66 (lb_ 43 536870911) rfl rfl (any_of HT_.out (by as_aux_lemma => kernel_rfl)) ?_
          refine pu_ 29 67 (lb_ 43 1073741823) rfl rfl (any_of HT_.out (by as_aux_lemma => kernel_rfl)) ?_
          refine pu_ 30 68 (lb_ 43 2147483647) rfl rfl (any_of HT_.out (by as_aux_lemma => kernel_rfl)) ?_
          refine pd_ 31 69 (lb_ 43 4294967295) rfl rfl (any_of HT_.out (by as_aux_lemma => kernel_rfl)) ?_
          refine pd_ 32 70 (lb_ 43 8589934591) rfl rfl (any_of HT_.out (by as_aux_lemma => kernel_rfl)) ?_
          refine pd_ 33 71 (lb_ 43 17179869183) rfl rfl (any_of HT_.out (by as_aux_lemma => kernel_rfl)) ?_
          refine pd_ 34 72 (lb_ 43 34359738367) rfl rfl (any_of HT_.out (by as_aux_lemma => kernel_rfl)) ?_
          refine pd_ 35 73 (lb_ 43 68719476735) rfl rfl (any_of HT_.out (by as_aux_lemma => kernel_rfl)) ?_
          refine pd_ 36 74 (lb_ 43 137438953471) rfl rfl (any_of HT_.out (by as_aux_lemma => kernel_rfl)) ?_
          refine pd_ 37 75 (lb_ 43 274877906943) rfl rfl (any_of HT_.out (by as_aux_lemma => kernel_rfl)) ?_
          refine pd_ 38 76 (lb_ 43 549755813887) rfl rfl (any_of HT_.out (by as_aux_lemma => kernel_rfl)) ?_
          refine pd_ 39 77 (lb_ 43 1099511627775) rfl rfl (any_of HT_.out (by as_aux_lemma => kernel_rfl)) ?_
          refine pu_ 40 78 (lb_ 43 2199023255551) rfl rfl (any_of HT_.out (by as_aux_lemma => kernel_rfl)) ?_
          refine pu_ 41 79 (lb_ 43 4398046511103) rfl rfl (any_of HT_.out (by as_aux_lemma => kernel_rfl)) ?_
          refine pu_ 42 80 (lb_ 43 8796093022207) rfl rfl (any_of HT_.out (by as_aux_lemma => kernel_rfl)) ?_
          refine done_ (done_of HT_.out (by as_aux_lemma => kernel_rfl)) ?_
          try go_wp2
          go_meet
          case rel => exact ⟨_, (true), (by first | rfl | (simp; done) | (simp [*]; done)), H', ⟨by have := HJ4.out; first | omega | exact Nat.le_refl _⟩, ⟨by (with_reducible repeat (first | apply Kd.R_alloc | apply Kd.R_drewN | apply Kd.R_drew)); exact HO545.out⟩, ⟨by (with_reducible repeat (first | refine blk_drewN ?_ _ | refine blk_drew ?_ | refine blk_alloc ?_ _)); exact BK530.out⟩, ⟨by (with_reducible repeat (first | refine blk_drewN ?_ _ | refine blk_drew ?_ | refine blk_alloc ?_ _)); exact BK531.out⟩, ⟨by (with_reducible repeat (first | refine blk_drewN ?_ _ | refine blk_drew ?_ | refine blk_alloc ?_ _)); exact BK539.out⟩, ⟨by (with_reducible repeat (first | refine blk_drewN ?_ _ | refine blk_drew ?_ | refine blk_alloc ?_ _)); exact BK546.out⟩, ⟨by repeat (first | (with_reducible first | exact HB.out | apply below_alloc | apply pw_below_drewN | apply below_drew1 | refine below_set ?_ GE530.out | refine below_set ?_ GE531.out | refine below_set ?_ GE539.out | refine below_set ?_ GE546.out) | exact HB.out)⟩⟩
         ·rw [if_neg c65] at H
          have c65b0 : decide (4096 < t538) = false := decide_eq_false c65
          clear c65
          by_cases c71 : t537 < 0
          ·rw [if_pos c71] at H
           have c71b0 : decide (t537 < 0) = true := decide_eq_true c71
           clear c71
           have H' := Aside0.mk H
           clear H
           try go_wp2
           have n0_ : Aside0 (Kd.R k33 33 ((((w42.setCell ⟨gb546, 0, none⟩ (.int .i64 t540)).setCell ⟨gb546, 1, none⟩ (.int .i64 t541)).setCell ⟨gb546, 2, none⟩ (.int .u8 t542)).setCell ⟨gb546, 3, none⟩ (.slice Ao47 t543.length co47)) w.heap.size (fun _ => True) (.slice Ao47 t543.length co47) t543) := ⟨by (with_reducible repeat (first | apply Kd.R_alloc | apply Kd.R_drewN | apply Kd.R_drew)); exact Kd.R_mono (Kd.R_far (p := ⟨gb546, 3, none⟩) (Kd.R_far (p := ⟨gb546, 2, none⟩) (Kd.R_far (p := ⟨gb546, 1, none⟩) (Kd.R_far (p := ⟨gb546, 0, none⟩) (Kd.R_types HO545.out BK546.out (by decide)) (fun _ hk => hk.2) (.int .i64 t540)) (fun _ hk => hk.2) (.int .i64 t541)) (fun _ hk => hk.2) (.int .u8 t542)) (fun _ hk => hk.2) (.slice Ao47 t543.length co47)) (fun _ hk => trivial)⟩
           have n1_ : Aside0 (((((w42.setCell ⟨gb546, 0, none⟩ (.int .i64 t540)).setCell ⟨gb546, 1, none⟩ (.int .i64 t541)).setCell ⟨gb546, 2, none⟩ (.int .u8 t542)).setCell ⟨gb546, 3, none⟩ (.slice Ao47 t543.length co47)).heap[gb530]? = some (.cells #[.int .i64 a0_0, .int .i64 a0_1, .bool a0_2] 23 (0, 0))) := ⟨by (with_reducible repeat (first | refine blk_drewN ?_ _ | refine blk_drew ?_ | refine blk_alloc ?_ _)); refine blk_far ?_ NB530_546.out _; (with_reducible repeat (first | refine blk_drewN ?_ _ | refine blk_drew ?_ | refine blk_alloc ?_ _)); refine blk_far ?_ NB530_546.out _; (with_reducible repeat (first | refine blk_drewN ?_ _ | refine blk_drew ?_ | refine blk_alloc ?_ _)); refine blk_far ?_ NB530_546.out _; (with_reducible repeat (first | refine blk_drewN ?_ _ | refine blk_drew ?_ | refine blk_alloc ?_ _)); refine blk_far ?_ NB530_546.out _; (with_reducible repeat (first | refine blk_drewN ?_ _ | refine blk_drew ?_ | refine blk_alloc ?_ _)); exact BK530.out⟩
           have n2_ : Aside0 (((((w42.setCell ⟨gb546, 0, none⟩ (.int .i64 t540)).setCell ⟨gb546, 1, none⟩ (.int .i64 t541)).setCell ⟨gb546, 2, none⟩ (.int .u8 t542)).setCell ⟨gb546, 3, none⟩ (.slice Ao47 t543.length co47)).heap[gb531]? = some (.cells #[.int .i64 a1_0, .int .i64 a1_1, .int .u8 a1_2, .slice A1_3 l1_3.length c1_3] 26 (0, 0))) := ⟨by (with_reducible repeat (first | refine blk_drewN ?_ _ | refine blk_drew ?_ | refine blk_alloc ?_ _)); refine blk_far ?_ NB531_546.out _; (with_reducible repeat (first | refine blk_drewN ?_ _ | refine blk_drew ?_ | refine blk_alloc ?_ _)); refine blk_far ?_ NB531_546.out _; (with_reducible repeat (first | refine blk_drewN ?_ _ | refine blk_drew ?_ | refine blk_alloc ?_ _)); refine blk_far ?_ NB531_546.out _; (with_reducible repeat (first | refine blk_drewN ?_ _ | refine blk_drew ?_ | refine blk_alloc ?_ _)); refine blk_far ?_ NB531_546.out _; (with_reducible repeat (first | refine blk_drewN ?_ _ | refine blk_drew ?_ | refine blk_alloc ?_ _)); exact BK531.out⟩
           have n3_ : Aside0 (((((w42.setCell ⟨gb546, 0, none⟩ (.int .i64 t540)).setCell ⟨gb546, 1, none⟩ (.int .i64 t541)).setCell ⟨gb546, 2, none⟩ (.int .u8 t542)).setCell ⟨gb546, 3, none⟩ (.slice Ao47 t543.length co47)).heap[gb539]? = some (.cells #[.int .i64 t536, .int .i64 t537, .int .i64 t538] 29 (0, 0))) := ⟨by (with_reducible repeat (first | refine blk_drewN ?_ _ | refine blk_drew ?_ | refine blk_alloc ?_ _)); refine blk_far ?_ NB539_546.out _; (with_reducible repeat (first | refine blk_drewN ?_ _ | refine blk_drew ?_ | refine blk_alloc ?_ _)); refine blk_far ?_ NB539_546.out _; (with_reducible repeat (first | refine blk_drewN ?_ _ | refine blk_drew ?_ | refine blk_alloc ?_ _)); refine blk_far ?_ NB539_546.out _; (with_reducible repeat (first | refine blk_drewN ?_ _ | refine blk_drew ?_ | refine blk_alloc ?_ _)); refine blk_far ?_ NB539_546.out _; (with_reducible repeat (first | refine blk_drewN ?_ _ | refine blk_drew ?_ | refine blk_alloc ?_ _)); exact BK539.out⟩
           have n4_ : Aside0 (((((w42.setCell ⟨gb546, 0, none⟩ (.int .i64 t540)).setCell ⟨gb546, 1, none⟩ (.int .i64 t541)).setCell ⟨gb546, 2, none⟩ (.int .u8 t542)).setCell ⟨gb546, 3, none⟩ (.slice Ao47 t543.length co47)).heap[gb546]? = some (.cells #[.int .i64 t540, .int .i64 t541, .int .u8 t542, .slice Ao47 t543.length co47] 26 (0, 0))) := ⟨by (with_reducible repeat (first | refine blk_drewN ?_ _ | refine blk_drew ?_ | refine blk_alloc ?_ _)); refine blk_put (cs := #[.int .i64 t540, .int .i64 t541, .int .u8 t542, .slice none 0 0]) ?_ 3 _ rfl; (with_reducible repeat (first | refine blk_drewN ?_ _ | refine blk_drew ?_ | refine blk_alloc ?_ _)); refine blk_put (cs := #[.int .i64 t540, .int .i64 t541, .int .u8 0, .slice none 0 0]) ?_ 2 _ rfl; (with_reducible repeat (first | refine blk_drewN ?_ _ | refine blk_drew ?_ | refine blk_alloc ?_ _)); refine blk_put (cs := #[.int .i64 t540, .int .i64 0, .int .u8 0, .slice none 0 0]) ?_ 1 _ rfl; (with_reducible repeat (first | refine blk_drewN ?_ _ | refine blk_drew ?_ | refine blk_alloc ?_ _)); refine blk_put (cs := #[.int .i64 0, .int .i64 0, .int .u8 0, .slice none 0 0]) ?_ 0 _ rfl; (with_reducible repeat (first | refine blk_drewN ?_ _ | refine blk_drew ?_ | refine blk_alloc ?_ _)); exact BK546.out⟩
           have n5_ : Aside0 (Below w.heap.size w ((((w42.setCell ⟨gb546, 0, none⟩ (.int .i64 t540)).setCell ⟨gb546, 1, none⟩ (.int .i64 t541)).setCell ⟨gb546, 2, none⟩ (.int .u8 t542)).setCell ⟨gb546, 3, none⟩ (.slice Ao47 t543.length co47))) := ⟨by repeat (first | (with_reducible first | exact HB.out | apply below_alloc | apply pw_below_drewN | apply below_drew1 | refine below_set ?_ GE530.out | refine below_set ?_ GE531.out | refine below_set ?_ GE539.out | refine below_set ?_ GE546.out) | exact HB.out)⟩
           (try clear HO545)
           (try clear BK530)
           (try clear BK531)
           (try clear BK539)
           (try clear BK546)
           (try clear HB)
           generalize ((((w42.setCell ⟨gb546, 0, none⟩ (.int .i64 t540)).setCell ⟨gb546, 1, none⟩ (.int .i64 t541)).setCell ⟨gb546, 2, none⟩ (.int .u8 t542)).setCell ⟨gb546, 3, none⟩ (.slice Ao47 t543.length co47)) = w72 at n0_ n1_ n2_ n3_ n4_ n5_ ⊢
           have HO545 := n0_
           have BK530 := n1_
           have BK531 := n2_
           have BK539 := n3_
           have BK546 := n4_
           have HB := n5_
           clear n0_ n1_ n2_ n3_ n4_ n5_
           replace HO545 := Aside0.mk (Kd.R_drew HO545.out)
           replace BK530 := Aside0.mk (blk_drew BK530.out)
           replace BK531 := Aside0.mk (blk_drew BK531.out)
           replace BK539 := Aside0.mk (blk_drew BK539.out)
           replace BK546 := Aside0.mk (blk_drew BK546.out)
           replace HB := Aside0.mk (below_drew1 HB.out)
           refine start_ (n := 43) (S := fun w' => w'.cell? ⟨gb546, 0, none⟩ = some (.int .i64 t540) ∧ w'.cell? ⟨gb546, 1, none⟩ = some (.int .i64 t541) ∧ w'.cell? ⟨gb546, 2, none⟩ = some (.int .u8 t542) ∧ w'.cell? ⟨gb546, 3, none⟩ = some (.slice Ao47 t543.length co47) ∧ w'.cell? ⟨gb531, 0, none⟩ = some (.int .i64 a1_0) ∧ w'.cell? ⟨gb531, 1, none⟩ = some (.int .i64 a1_1) ∧ w'.cell? ⟨gb531, 2, none⟩ = some (.int .u8 a1_2) ∧ w'.cell? ⟨gb531, 3, none⟩ = some (.slice A1_3 l1_3.length c1_3) ∧ w'.cell? ⟨gb539, 0, none⟩ = some (.int .i64 t536) ∧ w'.cell? ⟨gb539, 1, none⟩ = some (.int .i64 t537) ∧ w'.cell? ⟨gb539, 2, none⟩ = some (.int .i64 t538)) (ds := []) #[false, false, false, false, false, false, false, false, false, false, false, false, false, false, false, false, false, false, false, false, false, false, false, false, false, false, false, false, false, false, false, false, false, false, false, false, false, false, false, false, false, false, false] (by as_aux_lemma => kernel_rfl) rfl rfl ⟨(blk_cell BK546.out 0).trans rfl, (blk_cell BK546.out 1).trans rfl, (blk_cell BK546.out 2).trans rfl, (blk_cell BK546.out 3).trans rfl, (blk_cell BK531.out 0).trans rfl, (blk_cell BK531.out 1).trans rfl, (blk_cell BK531.out 2).trans rfl, (blk_cell BK531.out 3).trans rfl, (blk_cell BK539.out 0).trans rfl, (blk_cell BK539.out 1).trans rfl, (blk_cell BK539.out 2).trans rfl⟩ (fun hHeld => ?_); refine with_tabW salvorlaw18_PlanKeeps.tab5 salvorlaw18_PlanKeeps.bits5 (fun HT_ HW_ => ?_)
           generalize w72.drew = w73 at HO545 BK530 BK531 BK539 BK546 HB hHeld ⊢
           refine take_ (i := 0) (N := some 38) (v := ?_) (a' := ?_) #[true, false, false, false, false, false, false, false, false, false, false, false, false, false, false, false, false, false, false, false, false, false, false, false, false, false, false, false, false, false, false, false, false, false, false, false, false, false, false, false, false, false, false] rfl rfl (take_ofW HT_.out HW_.out (by as_aux_lemma => kernel_rfl)) (fun _ _ _ h => h) (Or.inl ⟨by rfl, ?_⟩) hHeld ?_ ?_
           rotate_left
           ·rintro w' ⟨s0, s1, s2, s3, s4, s5, s6, s7, s8, s9, s10⟩
            go_simp
            with_reducible rfl
           rotate_left
           ·simp only [Act.put, List.setIfInBounds_toArray, List.set_cons_zero, List.set_cons_succ, i64_w, i32_w]
            rfl
           refine one_ (i := 1) (N := some 39) #[true, true, false, false, false, false, false, false, false, false, false, false, false, false, false, false, false, false, false, false, false, false, false, false, false, false, false, false, false, false, false, false, false, false, false, false, false, false, false, false, false, false, false] rfl rfl (one_of HT_.out (by as_aux_lemma => kernel_rfl)) (by decide) (fun K hK => ?_)
           refine gq_ Try.func18 (by as_aux_lemma => kernel_rfl) rfl #[.agg #[.int .i64 t540, .int .i64 t541, .int .u8 t542, .slice Ao47 t543.length co47]] (by rfl) rfl rfl ?_
           with_reducible refine (maptext_May.calls kj4 t540 t541 t542 _ _ t543 true _ ?side1 ?side2 A48.out).mono ?_
           (case side1 => repeat (first | exact (Kd.R_reads' HO545.out).2.2 | (with_reducible refine Kd.C_alloc ?_ _) | (with_reducible refine Kd.C_drewN ?_ _) | (with_reducible refine Kd.C_drew ?_)))
           (case side2 => exact (Kd.R_reads' HO545.out).2.1)
           rintro e w74 ⟨rfl, hb⟩
           refine ⟨_, rfl, ?_⟩
           have n0_ := Aside0.mk (Kd.R_below (by (with_reducible repeat (first | apply Kd.R_alloc | apply Kd.R_drewN | apply Kd.R_drew)); exact HO545.out) hb)
           have n1_ := bb_ BK530 hb
           have n2_ := bb_ BK531 hb
           have n3_ := bb_ BK539 hb
           have n4_ := bb_ BK546 hb
           have n5_ := bs_ HB hb
           clear HO545
           clear BK530
           clear BK531
           clear BK539
           clear BK546
           clear HB
           have HO545 := n0_
           have BK530 := n1_
           have BK531 := n2_
           have BK539 := n3_
           have BK546 := n4_
           have HB := n5_
           clear n0_ n1_ n2_ n3_ n4_ n5_
           (try clear hb)
           (try clear hb2)
           (try clear hk)
           (try clear hi)
           refine hK.out _ _ ⟨(blk_cell BK546.out 0).trans rfl, (blk_cell BK546.out 1).trans rfl, (blk_cell BK546.out 2).trans rfl, (blk_cell BK546.out 3).trans rfl, (blk_cell BK531.out 0).trans rfl, (blk_cell BK531.out 1).trans rfl, (blk_cell BK531.out 2).trans rfl, (blk_cell BK531.out 3).trans rfl, (blk_cell BK539.out 0).trans rfl, (blk_cell BK539.out 1).trans rfl, (blk_cell BK539.out 2).trans rfl⟩ (fun hHeld => ?_)
           clear hK K
           refine norm_ (a' := ?_) ?_ ?_
           rotate_left
           ·show Act.put _ (some 39) _ = _
            simp only [Act.put, List.setIfInBounds_toArray, List.set_cons_zero, List.set_cons_succ, i64_w, i32_w]
            rfl
           refine pu_ 2 40 (lb_ 43 7) rfl rfl (any_of HT_.out (by as_aux_lemma => kernel_rfl)) ?_
           refine pu_ 3 41 (lb_ 43 15) rfl rfl (any_of HT_.out (by as_aux_lemma => kernel_rfl)) ?_
           refine pu_ 4 42 (lb_ 43 31) rfl rfl (any_of HT_.out (by as_aux_lemma => kernel_rfl)) ?_
           refine pu_ 7 45 (lb_ 43 159) rfl rfl (any_of HT_.out (by as_aux_lemma => kernel_rfl)) ?_
           refine take_ (i := 5) (N := some 43) (v := ?_) (a' := ?_) #[true, true, true, true, true, true, false, true, false, false, false, false, false, false, false, false, false, false, false, false, false, false, false, false, false, false, false, false, false, false, false, false, false, false, false, false, false, false, false, false, false, false, false] rfl rfl (take_ofW HT_.out HW_.out (by as_aux_lemma => kernel_rfl)) (fun _ _ _ h => h) (Or.inl ⟨by rfl, ?_⟩) hHeld ?_ ?_
           rotate_left
           ·rintro w' ⟨s0, s1, s2, s3, s4, s5, s6, s7, s8, s9, s10⟩
            go_simp
            with_reducible rfl
           rotate_left
           ·simp only [Act.put, List.setIfInBounds_toArray, List.set_cons_zero, List.set_cons_succ, i64_w, i32_w]
            rfl
           refine take_ (i := 8) (N := some 46) (v := ?_) (a' := ?_) #[true, true, true, true, true, true, false, true, true, false, false, false, false, false, false, false, false, false, false, false, false, false, false, false, false, false, false, false, false, false, false, false, false, false, false, false, false, false, false, false, false, false, false] rfl rfl (take_ofW HT_.out HW_.out (by as_aux_lemma => kernel_rfl)) (fun _ _ _ h => h) (Or.inl ⟨by rfl, ?_⟩) hHeld ?_ ?_
           rotate_left
           ·rintro w' ⟨s0, s1, s2, s3, s4, s5, s6, s7, s8, s9, s10⟩
            go_simp
            with_reducible rfl
           rotate_left
           ·simp only [Act.put, List.setIfInBounds_toArray, List.set_cons_zero, List.set_cons_succ, i64_w, i32_w]
            rfl
           refine one_ (i := 6) (N := some 44) #[true, true, true, true, true, true, true, true, true, false, false, false, false, false, false, false, false, false, false, false, false, false, false, false, false, false, false, false, false, false, false, false, false, false, false, false, false, false, false, false, false, false, false] rfl rfl (one_of HT_.out (by as_aux_lemma => kernel_rfl)) (by decide) (fun K hK => ?_)
           refine gq_ Try.func19 (by as_aux_lemma => kernel_rfl) rfl #[.slice Ao47 t543.length co47] (by rfl) rfl rfl ?_
           with_reducible refine (region_End.calls kj4 _ _ t543 t548 _ ?side1 ?side2 A50.out).mono ?_
           (case side1 => repeat (first | exact (Kd.R_reads' HO545.out).2.2 | (with_reducible refine Kd.C_alloc ?_ _) | (with_reducible refine Kd.C_drewN ?_ _) | (with_reducible refine Kd.C_drew ?_)))
           (case side2 => exact (Kd.R_reads' HO545.out).2.1)
           rintro e w75 ⟨rfl, hb⟩
           refine ⟨_, rfl, ?_⟩
           have n0_ := Aside0.mk (Kd.R_below (by (with_reducible repeat (first | apply Kd.R_alloc | apply Kd.R_drewN | apply Kd.R_drew)); exact HO545.out) hb)
           have n1_ := bb_ BK530 hb
           have n2_ := bb_ BK531 hb
           have n3_ := bb_ BK539 hb
           have n4_ := bb_ BK546 hb
           have n5_ := bs_ HB hb
           clear HO545
           clear BK530
           clear BK531
           clear BK539
           clear BK546
           clear HB
           have HO545 := n0_
           have BK530 := n1_
           have BK531 := n2_
           have BK539 := n3_
           have BK546 := n4_
           have HB := n5_
           clear n0_ n1_ n2_ n3_ n4_ n5_
           (try clear hb)
           (try clear hb2)
           (try clear hk)
           (try clear hi)
           refine hK.out _ _ ⟨(blk_cell BK546.out 0).trans rfl, (blk_cell BK546.out 1).trans rfl, (blk_cell BK546.out 2).trans rfl, (blk_cell BK546.out 3).trans rfl, (blk_cell BK531.out 0).trans rfl, (blk_cell BK531.out 1).trans rfl, (blk_cell BK531.out 2).trans rfl, (blk_cell BK531.out 3).trans rfl, (blk_cell BK539.out 0).trans rfl, (blk_cell BK539.out 1).trans rfl, (blk_cell BK539.out 2).trans rfl⟩ (fun hHeld => ?_)
           clear hK K
           refine norm_ (a' := ?_) ?_ ?_
           rotate_left
           ·show Act.put _ (some 44) _ = _
            simp only [Act.put, List.setIfInBounds_toArray, List.set_cons_zero, List.set_cons_succ, i64_w, i32_w]
            rfl
           refine one_ (i := 9) (N := some 47) #[true, true, true, true, true, true, true, true, true, true, false, false, false, false, false, false, false, false, false, false, false, false, false, false, false, false, false, false, false, false, false, false, false, false, false, false, false, false, false, false, false, false, false] rfl rfl (one_of HT_.out (by as_aux_lemma => kernel_rfl)) (by decide) (fun K hK => ?_)
           refine gq_ Try.func19 (by as_aux_lemma => kernel_rfl) rfl #[.slice A1_3 l1_3.length c1_3] (by rfl) rfl rfl ?_
           with_reducible refine (region_End.calls kj4 _ _ l1_3 t549 _ ?side1 ?side2 A51.out).mono ?_
           (case side1 => exact cb_ HR1_3 HB)
           (case side2 => exact HC1_3.out)
           rintro e w76 ⟨rfl, hb⟩
           refine ⟨_, rfl, ?_⟩
           have n0_ := Aside0.mk (Kd.R_below (by (with_reducible repeat (first | apply Kd.R_alloc | apply Kd.R_drewN | apply Kd.R_drew)); exact HO545.out) hb)
           have n1_ := bb_ BK530 hb
           have n2_ := bb_ BK531 hb
           have n3_ := bb_ BK539 hb
           have n4_ := bb_ BK546 hb
           have n5_ := bs_ HB hb
           clear HO545
           clear BK530
           clear BK531
           clear BK539
           clear BK546
           clear HB
           have HO545 := n0_
           have BK530 := n1_
           have BK531 := n2_
           have BK539 := n3_
           have BK546 := n4_
           have HB := n5_
           clear n0_ n1_ n2_ n3_ n4_ n5_
           (try clear hb)
           (try clear hb2)
           (try clear hk)
           (try clear hi)
           refine hK.out _ _ ⟨(blk_cell BK546.out 0).trans rfl, (blk_cell BK546.out 1).trans rfl, (blk_cell BK546.out 2).trans rfl, (blk_cell BK546.out 3).trans rfl, (blk_cell BK531.out 0).trans rfl, (blk_cell BK531.out 1).trans rfl, (blk_cell BK531.out 2).trans rfl, (blk_cell BK531.out 3).trans rfl, (blk_cell BK539.out 0).trans rfl, (blk_cell BK539.out 1).trans rfl, (blk_cell BK539.out 2).trans rfl⟩ (fun hHeld => ?_)
           clear hK K
           refine norm_ (a' := ?_) ?_ ?_
           rotate_left
           ·show Act.put _ (some 47) _ = _
            simp only [Act.put, List.setIfInBounds_toArray, List.set_cons_zero, List.set_cons_succ, i64_w, i32_w]
            rfl
           refine pu_ 10 48 (lb_ 43 2047) rfl rfl (any_of HT_.out (by as_aux_lemma => kernel_rfl)) ?_
           refine pu_ 11 49 (lb_ 43 4095) rfl rfl (any_of HT_.out (by as_aux_lemma => kernel_rfl)) ?_
           refine pu_ 12 50 (lb_ 43 8191) rfl rfl (any_of HT_.out (by as_aux_lemma => kernel_rfl)) ?_
           refine pu_ 13 51 (lb_ 43 16383) rfl rfl (any_of HT_.out (by as_aux_lemma => kernel_rfl)) ?_
           refine take_ (i := 14) (N := some 52) (v := ?_) (a' := ?_) #[true, true, true, true, true, true, true, true, true, true, true, true, true, true, true, false, false, false, false, false, false, false, false, false, false, false, false, false, false, false, false, false, false, false, false, false, false, false, false, false, false, false, false] rfl rfl (take_ofW HT_.out HW_.out (by as_aux_lemma => kernel_rfl)) (fun _ _ _ h => h) (Or.inl ⟨by rfl, ?_⟩) hHeld ?_ ?_
           rotate_left
           ·rintro w' ⟨s0, s1, s2, s3, s4, s5, s6, s7, s8, s9, s10⟩
            go_simp
            with_reducible rfl
           rotate_left
           ·simp only [Act.put, List.setIfInBounds_toArray, List.set_cons_zero, List.set_cons_succ, i64_w, i32_w]
            rfl
           refine pu_ 15 53 (lb_ 43 65535) rfl rfl (any_of HT_.out (by as_aux_lemma => kernel_rfl)) ?_
           refine pu_ 16 54 (lb_ 43 131071) rfl rfl (any_of HT_.out (by as_aux_lemma => kernel_rfl)) ?_
           refine pu_ 17 55 (lb_ 43 262143) rfl rfl (any_of HT_.out (by as_aux_lemma => kernel_rfl)) ?_
           refine take_ (i := 18) (N := some 56) (v := ?_) (a' := ?_) #[true, true, true, true, true, true, true, true, true, true, true, true, true, true, true, true, true, true, true, false, false, false, false, false, false, false, false, false, false, false, false, false, false, false, false, false, false, false, false, false, false, false, false] rfl rfl (take_ofW HT_.out HW_.out (by as_aux_lemma => kernel_rfl)) (fun _ _ _ h => h) (Or.inl ⟨by rfl, ?_⟩) hHeld ?_ ?_
           rotate_left
           ·rintro w' ⟨s0, s1, s2, s3, s4, s5, s6, s7, s8, s9, s10⟩
            go_simp
            with_reducible rfl
           rotate_left
           ·simp only [Act.put, List.setIfInBounds_toArray, List.set_cons_zero, List.set_cons_succ, i64_w, i32_w]
            rfl
           refine pu_ 19 57 (lb_ 43 1048575) rfl rfl (any_of HT_.out (by as_aux_lemma => kernel_rfl)) ?_
           refine pu_ 20 58 (lb_ 43 2097151) rfl rfl (any_of HT_.out (by as_aux_lemma => kernel_rfl)) ?_
           refine pu_ 21 59 (lb_ 43 4194303) rfl rfl (any_of HT_.out (by as_aux_lemma => kernel_rfl)) ?_
           refine take_ (i := 22) (N := some 60) (v := ?_) (a' := ?_) #[true, true, true, true, true, true, true, true, true, true, true, true, true, true, true, true, true, true, true, true, true, true, true, false, false, false, false, false, false, false, false, false, false, false, false, false, false, false, false, false, false, false, false] rfl rfl (take_ofW HT_.out HW_.out (by as_aux_lemma => kernel_rfl)) (fun _ _ _ h => h) (Or.inl ⟨by rfl, ?_⟩) hHeld ?_ ?_
           rotate_left
           ·rintro w' ⟨s0, s1, s2, s3, s4, s5, s6, s7, s8, s9, s10⟩
            go_simp
            with_reducible rfl
           rotate_left
           ·simp only [Act.put, List.setIfInBounds_toArray, List.set_cons_zero, List.set_cons_succ, i64_w, i32_w]
            rfl
           refine pu_ 23 61 (lb_ 43 16777215) rfl rfl (any_of HT_.out (by as_aux_lemma => kernel_rfl)) ?_
           refine pu_ 24 62 (lb_ 43 33554431) rfl rfl (any_of HT_.out (by as_aux_lemma => kernel_rfl)) ?_
           refine pu_ 25 63 (lb_ 43 67108863) rfl rfl (any_of HT_.out (by as_aux_lemma => kernel_rfl)) ?_
           refine pu_ 26 64 (lb_ 43 134217727) rfl rfl (any_of HT_.out (by as_aux_lemma => kernel_rfl)) ?_
           refine take_ (i := 27) (N := some 65) (v := ?_) (a' := ?_) #[true, true, true, true, true, true, true, true, true, true, true, true, true, true, true, true, true, true, true, true, true, true, true, true, true, true, true, true, false, false, false, false, false, false, false, false, false, false, false, false, false, false, false] rfl rfl (take_ofW HT_.out HW_.out (by as_aux_lemma => kernel_rfl)) (fun _ _ _ h => h) (Or.inl ⟨by rfl, ?_⟩) hHeld ?_ ?_
           rotate_left
           ·rintro w' ⟨s0, s1, s2, s3, s4, s5, s6, s7, s8, s9, s10⟩
            go_simp
            with_reducible rfl
           rotate_left
           ·simp only [Act.put, List.setIfInBounds_toArray, List.set_cons_zero, List.set_cons_succ, i64_w, i32_w]
            rfl
           refine pu_ 28 66 (lb_ 43 536870911) rfl rfl (any_of HT_.out (by as_aux_lemma => kernel_rfl)) ?_
           refine pu_ 29 67 (lb_ 43 1073741823) rfl rfl (any_of HT_.out (by as_aux_lemma => kernel_rfl)) ?_
           refine pu_ 30 68 (lb_ 43 2147483647) rfl rfl (any_of HT_.out (by as_aux_lemma => kernel_rfl)) ?_
           refine pd_ 31 69 (lb_ 43 4294967295) rfl rfl (any_of HT_.out (by as_aux_lemma => kernel_rfl)) ?_
           refine pd_ 32 70 (lb_ 43 8589934591) rfl rfl (any_of HT_.out (by as_aux_lemma => kernel_rfl)) ?_
           refine pd_ 33 71 (lb_ 43 17179869183) rfl rfl (any_of HT_.out (by as_aux_lemma => kernel_rfl)) ?_
           refine pd_ 34 72 (lb_ 43 34359738367) rfl rfl (any_of HT_.out (by as_aux_lemma => kernel_rfl)) ?_
           refine pd_ 35 73 (lb_ 43 68719476735) rfl rfl (any_of HT_.out (by as_aux_lemma => kernel_rfl)) ?_
           refine pd_ 36 74 (lb_ 43 137438953471) rfl rfl (any_of HT_.out (by as_aux_lemma => kernel_rfl)) ?_
           refine pd_ 37 75 (lb_ 43 274877906943) rfl rfl (any_of HT_.out (by as_aux_lemma => kernel_rfl)) ?_
           refine pd_ 38 76 (lb_ 43 549755813887) rfl rfl (any_of HT_.out (by as_aux_lemma => kernel_rfl)) ?_
           refine pd_ 39 77 (lb_ 43 1099511627775) rfl rfl (any_of HT_.out (by as_aux_lemma => kernel_rfl)) ?_
           refine pu_ 40 78 (lb_ 43 2199023255551) rfl rfl (any_of HT_.out (by as_aux_lemma => kernel_rfl)) ?_
           refine pu_ 41 79 (lb_ 43 4398046511103) rfl rfl (any_of HT_.out (by as_aux_lemma => kernel_rfl)) ?_
           refine pu_ 42 80 (lb_ 43 8796093022207) rfl rfl (any_of HT_.out (by as_aux_lemma => kernel_rfl)) ?_
           refine done_ (done_of HT_.out (by as_aux_lemma => kernel_rfl)) ?_
           try go_wp2
           go_meet
           case rel => exact ⟨_, (true), (by first | rfl | (simp; done) | (simp [*]; done)), H', ⟨by have := HJ4.out; first | omega | exact Nat.le_refl _⟩, ⟨by (with_reducible repeat (first | apply Kd.R_alloc | apply Kd.R_drewN | apply Kd.R_drew)); exact HO545.out⟩, ⟨by (with_reducible repeat (first | refine blk_drewN ?_ _ | refine blk_drew ?_ | refine blk_alloc ?_ _)); exact BK530.out⟩, ⟨by (with_reducible repeat (first | refine blk_drewN ?_ _ | refine blk_drew ?_ | refine blk_alloc ?_ _)); exact BK531.out⟩, ⟨by (with_reducible repeat (first | refine blk_drewN ?_ _ | refine blk_drew ?_ | refine blk_alloc ?_ _)); exact BK539.out⟩, ⟨by (with_reducible repeat (first | refine blk_drewN ?_ _ | refine blk_drew ?_ | refine blk_alloc ?_ _)); exact BK546.out⟩, ⟨by repeat (first | (with_reducible first | exact HB.out | apply below_alloc | apply pw_below_drewN | apply below_drew1 | refine below_set ?_ GE530.out | refine below_set ?_ GE531.out | refine below_set ?_ GE539.out | refine below_set ?_ GE546.out) | exact HB.out)⟩⟩
          ·rw [if_neg c71] at H
           have c71b0 : decide (t537 < 0) = false := decide_eq_false c71
           clear c71
           replace H := Option.bind_eq_some_iff.mp H
           obtain ⟨t550, A770, H⟩ := H
           replace H : (salvorlaw18_PlanKeeps.j1 kj4 a3 (decide ((wrap64 (t537 + t538)) > t550)) a1_0 a1_1 a1_2 l1_3 t536 t537 t538 t540 t541 t542 t543) = some r := H
           have A77 := Aside0.mk A770
           clear A770
           have H' := Aside0.mk H
           clear H
           try go_wp2
           have n0_ : Aside0 (Kd.R k33 33 ((((w42.setCell ⟨gb546, 0, none⟩ (.int .i64 t540)).setCell ⟨gb546, 1, none⟩ (.int .i64 t541)).setCell ⟨gb546, 2, none⟩ (.int .u8 t542)).setCell ⟨gb546, 3, none⟩ (.slice Ao47 t543.length co47)) w.heap.size (fun _ => True) (.slice Ao47 t543.length co47) t543) := ⟨by (with_reducible repeat (first | apply Kd.R_alloc | apply Kd.R_drewN | apply Kd.R_drew)); exact Kd.R_mono (Kd.R_far (p := ⟨gb546, 3, none⟩) (Kd.R_far (p := ⟨gb546, 2, none⟩) (Kd.R_far (p := ⟨gb546, 1, none⟩) (Kd.R_far (p := ⟨gb546, 0, none⟩) (Kd.R_types HO545.out BK546.out (by decide)) (fun _ hk => hk.2) (.int .i64 t540)) (fun _ hk => hk.2) (.int .i64 t541)) (fun _ hk => hk.2) (.int .u8 t542)) (fun _ hk => hk.2) (.slice Ao47 t543.length co47)) (fun _ hk => trivial)⟩
           have n1_ : Aside0 (((((w42.setCell ⟨gb546, 0, none⟩ (.int .i64 t540)).setCell ⟨gb546, 1, none⟩ (.int .i64 t541)).setCell ⟨gb546, 2, none⟩ (.int .u8 t542)).setCell ⟨gb546, 3, none⟩ (.slice Ao47 t543.length co47)).heap[gb530]? = some (.cells #[.int .i64 a0_0, .int .i64 a0_1, .bool a0_2] 23 (0, 0))) := ⟨by (with_reducible repeat (first | refine blk_drewN ?_ _ | refine blk_drew ?_ | refine blk_alloc ?_ _)); refine blk_far ?_ NB530_546.out _; (with_reducible repeat (first | refine blk_drewN ?_ _ | refine blk_drew ?_ | refine blk_alloc ?_ _)); refine blk_far ?_ NB530_546.out _; (with_reducible repeat (first | refine blk_drewN ?_ _ | refine blk_drew ?_ | refine blk_alloc ?_ _)); refine blk_far ?_ NB530_546.out _; (with_reducible repeat (first | refine blk_drewN ?_ _ | refine blk_drew ?_ | refine blk_alloc ?_ _)); refine blk_far ?_ NB530_546.out _; (with_reducible repeat (first | refine blk_drewN ?_ _ | refine blk_drew ?_ | refine blk_alloc ?_ _)); exact BK530.out⟩
           have n2_ : Aside0 (((((w42.setCell ⟨gb546, 0, none⟩ (.int .i64 t540)).setCell ⟨gb546, 1, none⟩ (.int .i64 t541)).setCell ⟨gb546, 2, none⟩ (.int .u8 t542)).setCell ⟨gb546, 3, none⟩ (.slice Ao47 t543.length co47)).heap[gb531]? = some (.cells #[.int .i64 a1_0, .int .i64 a1_1, .int .u8 a1_2, .slice A1_3 l1_3.length c1_3] 26 (0, 0))) := ⟨by (with_reducible repeat (first | refine blk_drewN ?_ _ | refine blk_drew ?_ | refine blk_alloc ?_ _)); refine blk_far ?_ NB531_546.out _; (with_reducible repeat (first | refine blk_drewN ?_ _ | refine blk_drew ?_ | refine blk_alloc ?_ _)); refine blk_far ?_ NB531_546.out _; (with_reducible repeat (first | refine blk_drewN ?_ _ | refine blk_drew ?_ | refine blk_alloc ?_ _)); refine blk_far ?_ NB531_546.out _; (with_reducible repeat (first | refine blk_drewN ?_ _ | refine blk_drew ?_ | refine blk_alloc ?_ _)); refine blk_far ?_ NB531_546.out _; (with_reducible repeat (first | refine blk_drewN ?_ _ | refine blk_drew ?_ | refine blk_alloc ?_ _)); exact BK531.out⟩
           have n3_ : Aside0 (((((w42.setCell ⟨gb546, 0, none⟩ (.int .i64 t540)).setCell ⟨gb546, 1, none⟩ (.int .i64 t541)).setCell ⟨gb546, 2, none⟩ (.int .u8 t542)).setCell ⟨gb546, 3, none⟩ (.slice Ao47 t543.length co47)).heap[gb539]? = some (.cells #[.int .i64 t536, .int .i64 t537, .int .i64 t538] 29 (0, 0))) := ⟨by (with_reducible repeat (first | refine blk_drewN ?_ _ | refine blk_drew ?_ | refine blk_alloc ?_ _)); refine blk_far ?_ NB539_546.out _; (with_reducible repeat (first | refine blk_drewN ?_ _ | refine blk_drew ?_ | refine blk_alloc ?_ _)); refine blk_far ?_ NB539_546.out _; (with_reducible repeat (first | refine blk_drewN ?_ _ | refine blk_drew ?_ | refine blk_alloc ?_ _)); refine blk_far ?_ NB539_546.out _; (with_reducible repeat (first | refine blk_drewN ?_ _ | refine blk_drew ?_ | refine blk_alloc ?_ _)); refine blk_far ?_ NB539_546.out _; (with_reducible repeat (first | refine blk_drewN ?_ _ | refine blk_drew ?_ | refine blk_alloc ?_ _)); exact BK539.out⟩
           have n4_ : Aside0 (((((w42.setCell ⟨gb546, 0, none⟩ (.int .i64 t540)).setCell ⟨gb546, 1, none⟩ (.int .i64 t541)).setCell ⟨gb546, 2, none⟩ (.int .u8 t542)).setCell ⟨gb546, 3, none⟩ (.slice Ao47 t543.length co47)).heap[gb546]? = some (.cells #[.int .i64 t540, .int .i64 t541, .int .u8 t542, .slice Ao47 t543.length co47] 26 (0, 0))) := ⟨by (with_reducible repeat (first | refine blk_drewN ?_ _ | refine blk_drew ?_ | refine blk_alloc ?_ _)); refine blk_put (cs := #[.int .i64 t540, .int .i64 t541, .int .u8 t542, .slice none 0 0]) ?_ 3 _ rfl; (with_reducible repeat (first | refine blk_drewN ?_ _ | refine blk_drew ?_ | refine blk_alloc ?_ _)); refine blk_put (cs := #[.int .i64 t540, .int .i64 t541, .int .u8 0, .slice none 0 0]) ?_ 2 _ rfl; (with_reducible repeat (first | refine blk_drewN ?_ _ | refine blk_drew ?_ | refine blk_alloc ?_ _)); refine blk_put (cs := #[.int .i64 t540, .int .i64 0, .int .u8 0, .slice none 0 0]) ?_ 1 _ rfl; (with_reducible repeat (first | refine blk_drewN ?_ _ | refine blk_drew ?_ | refine blk_alloc ?_ _)); refine blk_put (cs := #[.int .i64 0, .int .i64 0, .int .u8 0, .slice none 0 0]) ?_ 0 _ rfl; (with_reducible repeat (first | refine blk_drewN ?_ _ | refine blk_drew ?_ | refine blk_alloc ?_ _)); exact BK546.out⟩
           have n5_ : Aside0 (Below w.heap.size w ((((w42.setCell ⟨gb546, 0, none⟩ (.int .i64 t540)).setCell ⟨gb546, 1, none⟩ (.int .i64 t541)).setCell ⟨gb546, 2, none⟩ (.int .u8 t542)).setCell ⟨gb546, 3, none⟩ (.slice Ao47 t543.length co47))) := ⟨by repeat (first | (with_reducible first | exact HB.out | apply below_alloc | apply pw_below_drewN | apply below_drew1 | refine below_set ?_ GE530.out | refine below_set ?_ GE531.out | refine below_set ?_ GE539.out | refine below_set ?_ GE546.out) | exact HB.out)⟩
           (try clear HO545)
           (try clear BK530)
           (try clear BK531)
           (try clear BK539)
           (try clear BK546)
           (try clear HB)
           generalize ((((w42.setCell ⟨gb546, 0, none⟩ (.int .i64 t540)).setCell ⟨gb546, 1, none⟩ (.int .i64 t541)).setCell ⟨gb546, 2, none⟩ (.int .u8 t542)).setCell ⟨gb546, 3, none⟩ (.slice Ao47 t543.length co47)) = w78 at n0_ n1_ n2_ n3_ n4_ n5_ ⊢
           have HO545 := n0_
           have BK530 := n1_
           have BK531 := n2_
           have BK539 := n3_
           have BK546 := n4_
           have HB := n5_
           clear n0_ n1_ n2_ n3_ n4_ n5_
           replace HO545 := Aside0.mk (Kd.R_drew HO545.out)
           replace BK530 := Aside0.mk (blk_drew BK530.out)
           replace BK531 := Aside0.mk (blk_drew BK531.out)
           replace BK539 := Aside0.mk (blk_drew BK539.out)
           replace BK546 := Aside0.mk (blk_drew BK546.out)
           replace HB := Aside0.mk (below_drew1 HB.out)
           refine start_ (n := 43) (S := fun w' => w'.cell? ⟨gb546, 0, none⟩ = some (.int .i64 t540) ∧ w'.cell? ⟨gb546, 1, none⟩ = some (.int .i64 t541) ∧ w'.cell? ⟨gb546, 2, none⟩ = some (.int .u8 t542) ∧ w'.cell? ⟨gb546, 3, none⟩ = some (.slice Ao47 t543.length co47) ∧ w'.cell? ⟨gb531, 0, none⟩ = some (.int .i64 a1_0) ∧ w'.cell? ⟨gb531, 1, none⟩ = some (.int .i64 a1_1) ∧ w'.cell? ⟨gb531, 2, none⟩ = some (.int .u8 a1_2) ∧ w'.cell? ⟨gb531, 3, none⟩ = some (.slice A1_3 l1_3.length c1_3) ∧ w'.cell? ⟨gb539, 0, none⟩ = some (.int .i64 t536) ∧ w'.cell? ⟨gb539, 1, none⟩ = some (.int .i64 t537) ∧ w'.cell? ⟨gb539, 2, none⟩ = some (.int .i64 t538)) (ds := []) #[false, false, false, false, false, false, false, false, false, false, false, false, false, false, false, false, false, false, false, false, false, false, false, false, false, false, false, false, false, false, false, false, false, false, false, false, false, false, false, false, false, false, false] (by as_aux_lemma => kernel_rfl) rfl rfl ⟨(blk_cell BK546.out 0).trans rfl, (blk_cell BK546.out 1).trans rfl, (blk_cell BK546.out 2).trans rfl, (blk_cell BK546.out 3).trans rfl, (blk_cell BK531.out 0).trans rfl, (blk_cell BK531.out 1).trans rfl, (blk_cell BK531.out 2).trans rfl, (blk_cell BK531.out 3).trans rfl, (blk_cell BK539.out 0).trans rfl, (blk_cell BK539.out 1).trans rfl, (blk_cell BK539.out 2).trans rfl⟩ (fun hHeld => ?_); refine with_tabW salvorlaw18_PlanKeeps.tab5 salvorlaw18_PlanKeeps.bits5 (fun HT_ HW_ => ?_)
           generalize w78.drew = w79 at HO545 BK530 BK531 BK539 BK546 HB hHeld ⊢
           refine take_ (i := 0) (N := some 38) (v := ?_) (a' := ?_) #[true, false, false, false, false, false, false, false, false, false, false, false, false, false, false, false, false, false, false, false, false, false, false, false, false, false, false, false, false, false, false, false, false, false, false, false, false, false, false, false, false, false, false] rfl rfl (take_ofW HT_.out HW_.out (by as_aux_lemma => kernel_rfl)) (fun _ _ _ h => h) (Or.inl ⟨by rfl, ?_⟩) hHeld ?_ ?_
           rotate_left
           ·rintro w' ⟨s0, s1, s2, s3, s4, s5, s6, s7, s8, s9, s10⟩
            go_simp
            with_reducible rfl
           rotate_left
           ·simp only [Act.put, List.setIfInBounds_toArray, List.set_cons_zero, List.set_cons_succ, i64_w, i32_w]
            rfl
           refine one_ (i := 1) (N := some 39) #[true, true, false, false, false, false, false, false, false, false, false, false, false, false, false, false, false, false, false, false, false, false, false, false, false, false, false, false, false, false, false, false, false, false, false, false, false, false, false, false, false, false, false] rfl rfl (one_of HT_.out (by as_aux_lemma => kernel_rfl)) (by decide) (fun K hK => ?_)
           refine gq_ Try.func18 (by as_aux_lemma => kernel_rfl) rfl #[.agg #[.int .i64 t540, .int .i64 t541, .int .u8 t542, .slice Ao47 t543.length co47]] (by rfl) rfl rfl ?_
           with_reducible refine (maptext_May.calls kj4 t540 t541 t542 _ _ t543 true _ ?side1 ?side2 A48.out).mono ?_
           (case side1 => repeat (first | exact (Kd.R_reads' HO545.out).2.2 | (with_reducible refine Kd.C_alloc ?_ _) | (with_reducible refine Kd.C_drewN ?_ _) | (with_reducible refine Kd.C_drew ?_)))
           (case side2 => exact (Kd.R_reads' HO545.out).2.1)
           rintro e w80 ⟨rfl, hb⟩
           refine ⟨_, rfl, ?_⟩
           have n0_ := Aside0.mk (Kd.R_below (by (with_reducible repeat (first | apply Kd.R_alloc | apply Kd.R_drewN | apply Kd.R_drew)); exact HO545.out) hb)
           have n1_ := bb_ BK530 hb
           have n2_ := bb_ BK531 hb
           have n3_ := bb_ BK539 hb
           have n4_ := bb_ BK546 hb
           have n5_ := bs_ HB hb
           clear HO545
           clear BK530
           clear BK531
           clear BK539
           clear BK546
           clear HB
           have HO545 := n0_
           have BK530 := n1_
           have BK531 := n2_
           have BK539 := n3_
           have BK546 := n4_
           have HB := n5_
           clear n0_ n1_ n2_ n3_ n4_ n5_
           (try clear hb)
           (try clear hb2)
           (try clear hk)
           (try clear hi)
           refine hK.out _ _ ⟨(blk_cell BK546.out 0).trans rfl, (blk_cell BK546.out 1).trans rfl, (blk_cell BK546.out 2).trans rfl, (blk_cell BK546.out 3).trans rfl, (blk_cell BK531.out 0).trans rfl, (blk_cell BK531.out 1).trans rfl, (blk_cell BK531.out 2).trans rfl, (blk_cell BK531.out 3).trans rfl, (blk_cell BK539.out 0).trans rfl, (blk_cell BK539.out 1).trans rfl, (blk_cell BK539.out 2).trans rfl⟩ (fun hHeld => ?_)
           clear hK K
           refine norm_ (a' := ?_) ?_ ?_
           rotate_left
           ·show Act.put _ (some 39) _ = _
            simp only [Act.put, List.setIfInBounds_toArray, List.set_cons_zero, List.set_cons_succ, i64_w, i32_w]
            rfl
           refine pu_ 2 40 (lb_ 43 7) rfl rfl (any_of HT_.out (by as_aux_lemma => kernel_rfl)) ?_
           refine pu_ 3 41 (lb_ 43 15) rfl rfl (any_of HT_.out (by as_aux_lemma => kernel_rfl)) ?_
           refine pu_ 4 42 (lb_ 43 31) rfl rfl (any_of HT_.out (by as_aux_lemma => kernel_rfl)) ?_
           refine pu_ 7 45 (lb_ 43 159) rfl rfl (any_of HT_.out (by as_aux_lemma => kernel_rfl)) ?_
           refine take_ (i := 5) (N := some 43) (v := ?_) (a' := ?_) #[true, true, true, true, true, true, false, true, false, false, false, false, false, false, false, false, false, false, false, false, false, false, false, false, false, false, false, false, false, false, false, false, false, false, false, false, false, false, false, false, false, false, false] rfl rfl (take_ofW HT_.out HW_.out (by as_aux_lemma => kernel_rfl)) (fun _ _ _ h => h) (Or.inl ⟨by rfl, ?_⟩) hHeld ?_ ?_
           rotate_left
           ·rintro w' ⟨s0, s1, s2, s3, s4, s5, s6, s7, s8, s9, s10⟩
            go_simp
            with_reducible rfl
           rotate_left
           ·simp only [Act.put, List.setIfInBounds_toArray, List.set_cons_zero, List.set_cons_succ, i64_w, i32_w]
            rfl
           refine take_ (i := 8) (N := some 46) (v := ?_) (a' := ?_) #[true, true, true, true, true, true, false, true, true, false, false, false, false, false, false, false, false, false, false, false, false, false, false, false, false, false, false, false, false, false, false, false, false, false, false, false, false, false, false, false, false, false, false] rfl rfl (take_ofW HT_.out HW_.out (by as_aux_lemma => kernel_rfl)) (fun _ _ _ h => h) (Or.inl ⟨by rfl, ?_⟩) hHeld ?_ ?_
           rotate_left
           ·rintro w' ⟨s0, s1, s2, s3, s4, s5, s6, s7, s8, s9, s10⟩
            go_simp
            with_reducible rfl
           rotate_left
           ·simp only [Act.put, List.setIfInBounds_toArray, List.set_cons_zero, List.set_cons_succ, i64_w, i32_w]
            rfl
           refine one_ (i := 6) (N := some 44) #[true, true, true, true, true, true, true, true, true, false, false, false, false, false, false, false, false, false, false, false, false, false, false, false, false, false, false, false, false, false, false, false, false, false, false, false, false, false, false, false, false, false, false] rfl rfl (one_of HT_.out (by as_aux_lemma => kernel_rfl)) (by decide) (fun K hK => ?_)
           refine gq_ Try.func19 (by as_aux_lemma => kernel_rfl) rfl #[.slice Ao47 t543.length co47] (by rfl) rfl rfl ?_
           with_reducible refine (region_End.calls kj4 _ _ t543 t548 _ ?side1 ?side2 A50.out).mono ?_
           (case side1 => repeat (first | exact (Kd.R_reads' HO545.out).2.2 | (with_reducible refine Kd.C_alloc ?_ _) | (with_reducible refine Kd.C_drewN ?_ _) | (with_reducible refine Kd.C_drew ?_)))
           (case side2 => exact (Kd.R_reads' HO545.out).2.1)
           rintro e w81 ⟨rfl, hb⟩
           refine ⟨_, rfl, ?_⟩
           have n0_ := Aside0.mk (Kd.R_below (by (with_reducible repeat (first | apply Kd.R_alloc | apply Kd.R_drewN | apply Kd.R_drew)); exact HO545.out) hb)
           have n1_ := bb_ BK530 hb
           have n2_ := bb_ BK531 hb
           have n3_ := bb_ BK539 hb
           have n4_ := bb_ BK546 hb
           have n5_ := bs_ HB hb
           clear HO545
           clear BK530
           clear BK531
           clear BK539
           clear BK546
           clear HB
           have HO545 := n0_
           have BK530 := n1_
           have BK531 := n2_
           have BK539 := n3_
           have BK546 := n4_
           have HB := n5_
           clear n0_ n1_ n2_ n3_ n4_ n5_
           (try clear hb)
           (try clear hb2)
           (try clear hk)
           (try clear hi)
           refine hK.out _ _ ⟨(blk_cell BK546.out 0).trans rfl, (blk_cell BK546.out 1).trans rfl, (blk_cell BK546.out 2).trans rfl, (blk_cell BK546.out 3).trans rfl, (blk_cell BK531.out 0).trans rfl, (blk_cell BK531.out 1).trans rfl, (blk_cell BK531.out 2).trans rfl, (blk_cell BK531.out 3).trans rfl, (blk_cell BK539.out 0).trans rfl, (blk_cell BK539.out 1).trans rfl, (blk_cell BK539.out 2).trans rfl⟩ (fun hHeld => ?_)
           clear hK K
           refine norm_ (a' := ?_) ?_ ?_
           rotate_left
           ·show Act.put _ (some 44) _ = _
            simp only [Act.put, List.setIfInBounds_toArray, List.set_cons_zero, List.set_cons_succ, i64_w, i32_w]
            rfl
           refine one_ (i := 9) (N := some 47) #[true, true, true, true, true, true, true, true, true, true, false, false, false, false, false, false, false, false, false, false, false, false, false, false, false, false, false, false, false, false, false, false, false, false, false, false, false, false, false, false, false, false, false] rfl rfl (one_of HT_.out (by as_aux_lemma => kernel_rfl)) (by decide) (fun K hK => ?_)
           refine gq_ Try.func19 (by as_aux_lemma => kernel_rfl) rfl #[.slice A1_3 l1_3.length c1_3] (by rfl) rfl rfl ?_
           with_reducible refine (region_End.calls kj4 _ _ l1_3 t549 _ ?side1 ?side2 A51.out).mono ?_
           (case side1 => exact cb_ HR1_3 HB)
           (case side2 => exact HC1_3.out)
           rintro e w82 ⟨rfl, hb⟩
           refine ⟨_, rfl, ?_⟩
           have n0_ := Aside0.mk (Kd.R_below (by (with_reducible repeat (first | apply Kd.R_alloc | apply Kd.R_drewN | apply Kd.R_drew)); exact HO545.out) hb)
           have n1_ := bb_ BK530 hb
           have n2_ := bb_ BK531 hb
           have n3_ := bb_ BK539 hb
           have n4_ := bb_ BK546 hb
           have n5_ := bs_ HB hb
           clear HO545
           clear BK530
           clear BK531
           clear BK539
           clear BK546
           clear HB
           have HO545 := n0_
           have BK530 := n1_
           have BK531 := n2_
           have BK539 := n3_
           have BK546 := n4_
           have HB := n5_
           clear n0_ n1_ n2_ n3_ n4_ n5_
           (try clear hb)
           (try clear hb2)
           (try clear hk)
           (try clear hi)
           refine hK.out _ _ ⟨(blk_cell BK546.out 0).trans rfl, (blk_cell BK546.out 1).trans rfl, (blk_cell BK546.out 2).trans rfl, (blk_cell BK546.out 3).trans rfl, (blk_cell BK531.out 0).trans rfl, (blk_cell BK531.out 1).trans rfl, (blk_cell BK531.out 2).trans rfl, (blk_cell BK531.out 3).trans rfl, (blk_cell BK539.out 0).trans rfl, (blk_cell BK539.out 1).trans rfl, (blk_cell BK539.out 2).trans rfl⟩ (fun hHeld => ?_)
           clear hK K
           refine norm_ (a' := ?_) ?_ ?_
           rotate_left
           ·show Act.put _ (some 47) _ = _
            simp only [Act.put, List.setIfInBounds_toArray, List.set_cons_zero, List.set_cons_succ, i64_w, i32_w]
            rfl
           refine pu_ 10 48 (lb_ 43 2047) rfl rfl (any_of HT_.out (by as_aux_lemma => kernel_rfl)) ?_
           refine pu_ 11 49 (lb_ 43 4095) rfl rfl (any_of HT_.out (by as_aux_lemma => kernel_rfl)) ?_
           refine pu_ 12 50 (lb_ 43 8191) rfl rfl (any_of HT_.out (by as_aux_lemma => kernel_rfl)) ?_
           refine pu_ 13 51 (lb_ 43 16383) rfl rfl (any_of HT_.out (by as_aux_lemma => kernel_rfl)) ?_
           refine take_ (i := 14) (N := some 52) (v := ?_) (a' := ?_) #[true, true, true, true, true, true, true, true, true, true, true, true, true, true, true, false, false, false, false, false, false, false, false, false, false, false, false, false, false, false, false, false, false, false, false, false, false, false, false, false, false, false, false] rfl rfl (take_ofW HT_.out HW_.out (by as_aux_lemma => kernel_rfl)) (fun _ _ _ h => h) (Or.inl ⟨by rfl, ?_⟩) hHeld ?_ ?_
           rotate_left
           ·rintro w' ⟨s0, s1, s2, s3, s4, s5, s6, s7, s8, s9, s10⟩
            go_simp
            with_reducible rfl
           rotate_left
           ·simp only [Act.put, List.setIfInBounds_toArray, List.set_cons_zero, List.set_cons_succ, i64_w, i32_w]
            rfl
           refine pu_ 15 53 (lb_ 43 65535) rfl rfl (any_of HT_.out (by as_aux_lemma => kernel_rfl)) ?_
           refine pu_ 16 54 (lb_ 43 131071) rfl rfl (any_of HT_.out (by as_aux_lemma => kernel_rfl)) ?_
           refine pu_ 17 55 (lb_ 43 262143) rfl rfl (any_of HT_.out (by as_aux_lemma => kernel_rfl)) ?_
           refine take_ (i := 18) (N := some 56) (v := ?_) (a' := ?_) #[true, true, true, true, true, true, true, true, true, true, true, true, true, true, true, true, true, true, true, false, false, false, false, false, false, false, false, false, false, false, false, false, false, false, false, false, false, false, false, false, false, false, false] rfl rfl (take_ofW HT_.out HW_.out (by as_aux_lemma => kernel_rfl)) (fun _ _ _ h => h) (Or.inl ⟨by rfl, ?_⟩) hHeld ?_ ?_
           rotate_left
           ·rintro w' ⟨s0, s1, s2, s3, s4, s5, s6, s7, s8, s9, s10⟩
            go_simp
            with_reducible rfl
           rotate_left
           ·simp only [Act.put, List.setIfInBounds_toArray, List.set_cons_zero, List.set_cons_succ, i64_w, i32_w]
            rfl
           refine pu_ 19 57 (lb_ 43 1048575) rfl rfl (any_of HT_.out (by as_aux_lemma => kernel_rfl)) ?_
           refine pu_ 20 58 (lb_ 43 2097151) rfl rfl (any_of HT_.out (by as_aux_lemma => kernel_rfl)) ?_
           refine pu_ 21 59 (lb_ 43 4194303) rfl rfl (any_of HT_.out (by as_aux_lemma => kernel_rfl)) ?_
           refine take_ (i := 22) (N := some 60) (v := ?_) (a' := ?_) #[true, true, true, true, true, true, true, true, true, true, true, true, true, true, true, true, true, true, true, true, true, true, true, false, false, false, false, false, false, false, false, false, false, false, false, false, false, false, false, false, false, false, false] rfl rfl (take_ofW HT_.out HW_.out (by as_aux_lemma => kernel_rfl)) (fun _ _ _ h => h) (Or.inl ⟨by rfl, ?_⟩) hHeld ?_ ?_
           rotate_left
           ·rintro w' ⟨s0, s1, s2, s3, s4, s5, s6, s7, s8, s9, s10⟩
            go_simp
            with_reducible rfl
           rotate_left
           ·simp only [Act.put, List.setIfInBounds_toArray, List.set_cons_zero, List.set_cons_succ, i64_w, i32_w]
            rfl
           refine pu_ 23 61 (lb_ 43 16777215) rfl rfl (any_of HT_.out (by as_aux_lemma => kernel_rfl)) ?_
           refine pu_ 24 62 (lb_ 43 33554431) rfl rfl (any_of HT_.out (by as_aux_lemma => kernel_rfl)) ?_
           refine pu_ 25 63 (lb_ 43 67108863) rfl rfl (any_of HT_.out (by as_aux_lemma => kernel_rfl)) ?_
           refine pu_ 26 64 (lb_ 43 134217727) rfl rfl (any_of HT_.out (by as_aux_lemma => kernel_rfl)) ?_
           refine take_ (i := 27) (N := some 65) (v := ?_) (a' := ?_) #[true, true, true, true, true, true, true, true, true, true, true, true, true, true, true, true, true, true, true, true, true, true, true, true, true, true, true, true, false, false, false, false, false, false, false, false, false, false, false, false, false, false, false] rfl rfl (take_ofW HT_.out HW_.out (by as_aux_lemma => kernel_rfl)) (fun _ _ _ h => h) (Or.inl ⟨by rfl, ?_⟩) hHeld ?_ ?_
           rotate_left
           ·rintro w' ⟨s0, s1, s2, s3, s4, s5, s6, s7, s8, s9, s10⟩
            go_simp
            with_reducible rfl
           rotate_left
           ·simp only [Act.put, List.setIfInBounds_toArray, List.set_cons_zero, List.set_cons_succ, i64_w, i32_w]
            rfl
           refine pu_ 28 66 (lb_ 43 536870911) rfl rfl (any_of HT_.out (by as_aux_lemma => kernel_rfl)) ?_
           refine pu_ 29 67 (lb_ 43 1073741823) rfl rfl (any_of HT_.out (by as_aux_lemma => kernel_rfl)) ?_
           refine pu_ 30 68 (lb_ 43 2147483647) rfl rfl (any_of HT_.out (by as_aux_lemma => kernel_rfl)) ?_
           refine pu_ 31 69 (lb_ 43 4294967295) rfl rfl (any_of HT_.out (by as_aux_lemma => kernel_rfl)) ?_
           refine pu_ 33 71 (lb_ 43 12884901887) rfl rfl (any_of HT_.out (by as_aux_lemma => kernel_rfl)) ?_
           refine pu_ 36 74 (lb_ 43 81604378623) rfl rfl (any_of HT_.out (by as_aux_lemma => kernel_rfl)) ?_
           refine take_ (i := 32) (N := some 70) (v := ?_) (a' := ?_) #[true, true, true, true, true, true, true, true, true, true, true, true, true, true, true, true, true, true, true, true, true, true, true, true, true, true, true, true, true, true, true, true, true, true, false, false, true, false, false, false, false, false, false] rfl rfl (take_ofW HT_.out HW_.out (by as_aux_lemma => kernel_rfl)) (fun _ _ _ h => h) (Or.inl ⟨by rfl, ?_⟩) hHeld ?_ ?_
           rotate_left
           ·rintro w' ⟨s0, s1, s2, s3, s4, s5, s6, s7, s8, s9, s10⟩
            go_simp
            with_reducible rfl
           rotate_left
           ·simp only [Act.put, List.setIfInBounds_toArray, List.set_cons_zero, List.set_cons_succ, i64_w, i32_w]
            rfl
           refine take_ (i := 34) (N := some 72) (v := ?_) (a' := ?_) #[true, true, true, true, true, true, true, true, true, true, true, true, true, true, true, true, true, true, true, true, true, true, true, true, true, true, true, true, true, true, true, true, true, true, true, false, true, false, false, false, false, false, false] rfl rfl (take_ofW HT_.out HW_.out (by as_aux_lemma => kernel_rfl)) (fun _ _ _ h => h) (Or.inl ⟨by rfl, ?_⟩) hHeld ?_ ?_
           rotate_left
           ·rintro w' ⟨s0, s1, s2, s3, s4, s5, s6, s7, s8, s9, s10⟩
            go_simp
            with_reducible rfl
           rotate_left
           ·simp only [Act.put, List.setIfInBounds_toArray, List.set_cons_zero, List.set_cons_succ, i64_w, i32_w]
            rfl
           refine pu_ 35 73 (lb_ 43 137438953471) rfl rfl (any_of HT_.out (by as_aux_lemma => kernel_rfl)) ?_
           refine take_ (i := 37) (N := some 75) (v := ?_) (a' := ?_) #[true, true, true, true, true, true, true, true, true, true, true, true, true, true, true, true, true, true, true, true, true, true, true, true, true, true, true, true, true, true, true, true, true, true, true, true, true, true, false, false, false, false, false] rfl rfl (take_ofW HT_.out HW_.out (by as_aux_lemma => kernel_rfl)) (fun _ _ _ h => h) (Or.inl ⟨by rfl, ?_⟩) hHeld ?_ ?_
           rotate_left
           ·rintro w' ⟨s0, s1, s2, s3, s4, s5, s6, s7, s8, s9, s10⟩
            go_simp
            with_reducible rfl
           rotate_left
           ·simp only [Act.put, List.setIfInBounds_toArray, List.set_cons_zero, List.set_cons_succ, i64_w, i32_w]
            rfl
           refine one_ (i := 38) (N := some 76) #[true, true, true, true, true, true, true, true, true, true, true, true, true, true, true, true, true, true, true, true, true, true, true, true, true, true, true, true, true, true, true, true, true, true, true, true, true, true, true, false, false, false, false] rfl rfl (one_of HT_.out (by as_aux_lemma => kernel_rfl)) (by decide) (fun K hK => ?_)
           refine gq_ Try.func19 (by as_aux_lemma => kernel_rfl) rfl #[.slice A1_3 l1_3.length c1_3] (by rfl) rfl rfl ?_
           with_reducible refine (region_End.calls kj4 _ _ l1_3 t550 _ ?side1 ?side2 A77.out).mono ?_
           (case side1 => exact cb_ HR1_3 HB)
           (case side2 => exact HC1_3.out)
           rintro e w83 ⟨rfl, hb⟩
           refine ⟨_, rfl, ?_⟩
           have n0_ := Aside0.mk (Kd.R_below (by (with_reducible repeat (first | apply Kd.R_alloc | apply Kd.R_drewN | apply Kd.R_drew)); exact HO545.out) hb)
           have n1_ := bb_ BK530 hb
           have n2_ := bb_ BK531 hb
           have n3_ := bb_ BK539 hb
           have n4_ := bb_ BK546 hb
           have n5_ := bs_ HB hb
           clear HO545
           clear BK530
           clear BK531
           clear BK539
           clear BK546
           clear HB
           have HO545 := n0_
           have BK530 := n1_
           have BK531 := n2_
           have BK539 := n3_
           have BK546 := n4_
           have HB := n5_
           clear n0_ n1_ n2_ n3_ n4_ n5_
           (try clear hb)
           (try clear hb2)
           (try clear hk)
           (try clear hi)
           refine hK.out _ _ ⟨(blk_cell BK546.out 0).trans rfl, (blk_cell BK546.out 1).trans rfl, (blk_cell BK546.out 2).trans rfl, (blk_cell BK546.out 3).trans rfl, (blk_cell BK531.out 0).trans rfl, (blk_cell BK531.out 1).trans rfl, (blk_cell BK531.out 2).trans rfl, (blk_cell BK531.out 3).trans rfl, (blk_cell BK539.out 0).trans rfl, (blk_cell BK539.out 1).trans rfl, (blk_cell BK539.out 2).trans rfl⟩ (fun hHeld => ?_)
           clear hK K
           refine norm_ (a' := ?_) ?_ ?_
           rotate_left
           ·show Act.put _ (some 76) _ = _
            simp only [Act.put, List.setIfInBounds_toArray, List.set_cons_zero, List.set_cons_succ, i64_w, i32_w]
            rfl
           refine pu_ 39 77 (lb_ 43 1099511627775) rfl rfl (any_of HT_.out (by as_aux_lemma => kernel_rfl)) ?_
           refine pu_ 40 78 (lb_ 43 2199023255551) rfl rfl (any_of HT_.out (by as_aux_lemma => kernel_rfl)) ?_
           refine pu_ 41 79 (lb_ 43 4398046511103) rfl rfl (any_of HT_.out (by as_aux_lemma => kernel_rfl)) ?_
           refine pu_ 42 80 (lb_ 43 8796093022207) rfl rfl (any_of HT_.out (by as_aux_lemma => kernel_rfl)) ?_
           refine done_ (done_of HT_.out (by as_aux_lemma => kernel_rfl)) ?_
           try go_wp2
           go_meet
           case rel => exact ⟨_, (decide ((wrap64 (t537 + t538)) > t550)), (by first | rfl | (simp; done) | (simp [*]; done)), H', ⟨by have := HJ4.out; first | omega | exact Nat.le_refl _⟩, ⟨by (with_reducible repeat (first | apply Kd.R_alloc | apply Kd.R_drewN | apply Kd.R_drew)); exact HO545.out⟩, ⟨by (with_reducible repeat (first | refine blk_drewN ?_ _ | refine blk_drew ?_ | refine blk_alloc ?_ _)); exact BK530.out⟩, ⟨by (with_reducible repeat (first | refine blk_drewN ?_ _ | refine blk_drew ?_ | refine blk_alloc ?_ _)); exact BK531.out⟩, ⟨by (with_reducible repeat (first | refine blk_drewN ?_ _ | refine blk_drew ?_ | refine blk_alloc ?_ _)); exact BK539.out⟩, ⟨by (with_reducible repeat (first | refine blk_drewN ?_ _ | refine blk_drew ?_ | refine blk_alloc ?_ _)); exact BK546.out⟩, ⟨by repeat (first | (with_reducible first | exact HB.out | apply below_alloc | apply pw_below_drewN | apply below_drew1 | refine below_set ?_ GE530.out | refine below_set ?_ GE531.out | refine below_set ?_ GE539.out | refine below_set ?_ GE546.out) | exact HB.out)⟩⟩
      ·rw [if_neg c52] at H
       have c52b0 : (t548 == t549) = false := beq_eq_false_iff_ne.mpr c52
       have c52b1 : (t548 != t549) = true := bne_iff_ne.mpr c52
       (first | rw [c52b0] | (simp only [i64_w, i32_w]; rw [c52b0]) | skip)
       have H' := Aside0.mk H
       clear H
       try go_wp2
       have n0_ : Aside0 (Kd.R k33 33 ((((w42.setCell ⟨gb546, 0, none⟩ (.int .i64 t540)).setCell ⟨gb546, 1, none⟩ (.int .i64 t541)).setCell ⟨gb546, 2, none⟩ (.int .u8 t542)).setCell ⟨gb546, 3, none⟩ (.slice Ao47 t543.length co47)) w.heap.size (fun _ => True) (.slice Ao47 t543.length co47) t543) := ⟨by (with_reducible repeat (first | apply Kd.R_alloc | apply Kd.R_drewN | apply Kd.R_drew)); exact Kd.R_mono (Kd.R_far (p := ⟨gb546, 3, none⟩) (Kd.R_far (p := ⟨gb546, 2, none⟩) (Kd.R_far (p := ⟨gb546, 1, none⟩) (Kd.R_far (p := ⟨gb546, 0, none⟩) (Kd.R_types HO545.out BK546.out (by decide)) (fun _ hk => hk.2) (.int .i64 t540)) (fun _ hk => hk.2) (.int .i64 t541)) (fun _ hk => hk.2) (.int .u8 t542)) (fun _ hk => hk.2) (.slice Ao47 t543.length co47)) (fun _ hk => trivial)⟩
       have n1_ : Aside0 (((((w42.setCell ⟨gb546, 0, none⟩ (.int .i64 t540)).setCell ⟨gb546, 1, none⟩ (.int .i64 t541)).setCell ⟨gb546, 2, none⟩ (.int .u8 t542)).setCell ⟨gb546, 3, none⟩ (.slice Ao47 t543.length co47)).heap[gb530]? = some (.cells #[.int .i64 a0_0, .int .i64 a0_1, .bool a0_2] 23 (0, 0))) := ⟨by (with_reducible repeat (first | refine blk_drewN ?_ _ | refine blk_drew ?_ | refine blk_alloc ?_ _)); refine blk_far ?_ NB530_546.out _; (with_reducible repeat (first | refine blk_drewN ?_ _ | refine blk_drew ?_ | refine blk_alloc ?_ _)); refine blk_far ?_ NB530_546.out _; (with_reducible repeat (first | refine blk_drewN ?_ _ | refine blk_drew ?_ | refine blk_alloc ?_ _)); refine blk_far ?_ NB530_546.out _; (with_reducible repeat (first | refine blk_drewN ?_ _ | refine blk_drew ?_ | refine blk_alloc ?_ _)); refine blk_far ?_ NB530_546.out _; (with_reducible repeat (first | refine blk_drewN ?_ _ | refine blk_drew ?_ | refine blk_alloc ?_ _)); exact BK530.out⟩
       have n2_ : Aside0 (((((w42.setCell ⟨gb546, 0, none⟩ (.int .i64 t540)).setCell ⟨gb546, 1, none⟩ (.int .i64 t541)).setCell ⟨gb546, 2, none⟩ (.int .u8 t542)).setCell ⟨gb546, 3, none⟩ (.slice Ao47 t543.length co47)).heap[gb531]? = some (.cells #[.int .i64 a1_0, .int .i64 a1_1, .int .u8 a1_2, .slice A1_3 l1_3.length c1_3] 26 (0, 0))) := ⟨by (with_reducible repeat (first | refine blk_drewN ?_ _ | refine blk_drew ?_ | refine blk_alloc ?_ _)); refine blk_far ?_ NB531_546.out _; (with_reducible repeat (first | refine blk_drewN ?_ _ | refine blk_drew ?_ | refine blk_alloc ?_ _)); refine blk_far ?_ NB531_546.out _; (with_reducible repeat (first | refine blk_drewN ?_ _ | refine blk_drew ?_ | refine blk_alloc ?_ _)); refine blk_far ?_ NB531_546.out _; (with_reducible repeat (first | refine blk_drewN ?_ _ | refine blk_drew ?_ | refine blk_alloc ?_ _)); refine blk_far ?_ NB531_546.out _; (with_reducible repeat (first | refine blk_drewN ?_ _ | refine blk_drew ?_ | refine blk_alloc ?_ _)); exact BK531.out⟩
       have n3_ : Aside0 (((((w42.setCell ⟨gb546, 0, none⟩ (.int .i64 t540)).setCell ⟨gb546, 1, none⟩ (.int .i64 t541)).setCell ⟨gb546, 2, none⟩ (.int .u8 t542)).setCell ⟨gb546, 3, none⟩ (.slice Ao47 t543.length co47)).heap[gb539]? = some (.cells #[.int .i64 t536, .int .i64 t537, .int .i64 t538] 29 (0, 0))) := ⟨by (with_reducible repeat (first | refine blk_drewN ?_ _ | refine blk_drew ?_ | refine blk_alloc ?_ _)); refine blk_far ?_ NB539_546.out _; (with_reducible repeat (first | refine blk_drewN ?_ _ | refine blk_drew ?_ | refine blk_alloc ?_ _)); refine blk_far ?_ NB539_546.out _; (with_reducible repeat (first | refine blk_drewN ?_ _ | refine blk_drew ?_ | refine blk_alloc ?_ _)); refine blk_far ?_ NB539_546.out _; (with_reducible repeat (first | refine blk_drewN ?_ _ | refine blk_drew ?_ | refine blk_alloc ?_ _)); refine blk_far ?_ NB539_546.out _; (with_reducible repeat (first | refine blk_drewN ?_ _ | refine blk_drew ?_ | refine blk_alloc ?_ _)); exact BK539.out⟩
       have n4_ : Aside0 (((((w42.setCell ⟨gb546, 0, none⟩ (.int .i64 t540)).setCell ⟨gb546, 1, none⟩ (.int .i64 t541)).setCell ⟨gb546, 2, none⟩ (.int .u8 t542)).setCell ⟨gb546, 3, none⟩ (.slice Ao47 t543.length co47)).heap[gb546]? = some (.cells #[.int .i64 t540, .int .i64 t541, .int .u8 t542, .slice Ao47 t543.length co47] 26 (0, 0))) := ⟨by (with_reducible repeat (first | refine blk_drewN ?_ _ | refine blk_drew ?_ | refine blk_alloc ?_ _)); refine blk_put (cs := #[.int .i64 t540, .int .i64 t541, .int .u8 t542, .slice none 0 0]) ?_ 3 _ rfl; (with_reducible repeat (first | refine blk_drewN ?_ _ | refine blk_drew ?_ | refine blk_alloc ?_ _)); refine blk_put (cs := #[.int .i64 t540, .int .i64 t541, .int .u8 0, .slice none 0 0]) ?_ 2 _ rfl; (with_reducible repeat (first | refine blk_drewN ?_ _ | refine blk_drew ?_ | refine blk_alloc ?_ _)); refine blk_put (cs := #[.int .i64 t540, .int .i64 0, .int .u8 0, .slice none 0 0]) ?_ 1 _ rfl; (with_reducible repeat (first | refine blk_drewN ?_ _ | refine blk_drew ?_ | refine blk_alloc ?_ _)); refine blk_put (cs := #[.int .i64 0, .int .i64 0, .int .u8 0, .slice none 0 0]) ?_ 0 _ rfl; (with_reducible repeat (first | refine blk_drewN ?_ _ | refine blk_drew ?_ | refine blk_alloc ?_ _)); exact BK546.out⟩
       have n5_ : Aside0 (Below w.heap.size w ((((w42.setCell ⟨gb546, 0, none⟩ (.int .i64 t540)).setCell ⟨gb546, 1, none⟩ (.int .i64 t541)).setCell ⟨gb546, 2, none⟩ (.int .u8 t542)).setCell ⟨gb546, 3, none⟩ (.slice Ao47 t543.length co47))) := ⟨by repeat (first | (with_reducible first | exact HB.out | apply below_alloc | apply pw_below_drewN | apply below_drew1 | refine below_set ?_ GE530.out | refine below_set ?_ GE531.out | refine below_set ?_ GE539.out | refine below_set ?_ GE546.out) | exact HB.out)⟩
       (try clear HO545)
       (try clear BK530)
       (try clear BK531)
       (try clear BK539)
       (try clear BK546)
       (try clear HB)
       generalize ((((w42.setCell ⟨gb546, 0, none⟩ (.int .i64 t540)).setCell ⟨gb546, 1, none⟩ (.int .i64 t541)).setCell ⟨gb546, 2, none⟩ (.int .u8 t542)).setCell ⟨gb546, 3, none⟩ (.slice Ao47 t543.length co47)) = w84 at n0_ n1_ n2_ n3_ n4_ n5_ ⊢
       have HO545 := n0_
       have BK530 := n1_
       have BK531 := n2_
       have BK539 := n3_
       have BK546 := n4_
       have HB := n5_
       clear n0_ n1_ n2_ n3_ n4_ n5_
       replace HO545 := Aside0.mk (Kd.R_drew HO545.out)
       replace BK530 := Aside0.mk (blk_drew BK530.out)
       replace BK531 := Aside0.mk (blk_drew BK531.out)
       replace BK539 := Aside0.mk (blk_drew BK539.out)
       replace BK546 := Aside0.mk (blk_drew BK546.out)
       replace HB := Aside0.mk (below_drew1 HB.out)
       refine start_ (n := 43) (S := fun w' => w'.cell? ⟨gb546, 0, none⟩ = some (.int .i64 t540) ∧ w'.cell? ⟨gb546, 1, none⟩ = some (.int .i64 t541) ∧ w'.cell? ⟨gb546, 2, none⟩ = some (.int .u8 t542) ∧ w'.cell? ⟨gb546, 3, none⟩ = some (.slice Ao47 t543.length co47) ∧ w'.cell? ⟨gb531, 0, none⟩ = some (.int .i64 a1_0) ∧ w'.cell? ⟨gb531, 1, none⟩ = some (.int .i64 a1_1) ∧ w'.cell? ⟨gb531, 2, none⟩ = some (.int .u8 a1_2) ∧ w'.cell? ⟨gb531, 3, none⟩ = some (.slice A1_3 l1_3.length c1_3)) (ds := []) #[false, false, false, false, false, false, false, false, false, false, false, false, false, false, false, false, false, false, false, false, false, false, false, false, false, false, false, false, false, false, false, false, false, false, false, false, false, false, false, false, false, false, false] (by as_aux_lemma => kernel_rfl) rfl rfl ⟨(blk_cell BK546.out 0).trans rfl, (blk_cell BK546.out 1).trans rfl, (blk_cell BK546.out 2).trans rfl, (blk_cell BK546.out 3).trans rfl, (blk_cell BK531.out 0).trans rfl, (blk_cell BK531.out 1).trans rfl, (blk_cell BK531.out 2).trans rfl, (blk_cell BK531.out 3).trans rfl⟩ (fun hHeld => ?_); refine with_tabW salvorlaw18_PlanKeeps.tab5 salvorlaw18_PlanKeeps.bits5 (fun HT_ HW_ => ?_)
       generalize w84.drew = w85 at HO545 BK530 BK531 BK539 BK546 HB hHeld ⊢
       refine take_ (i := 0) (N := some 38) (v := ?_) (a' := ?_) #[true, false, false, false, false, false, false, false, false, false, false, false, false, false, false, false, false, false, false, false, false, false, false, false, false, false, false, false, false, false, false, false, false, false, false, false, false, false, false, false, false, false, false] rfl rfl (take_ofW HT_.out HW_.out (by as_aux_lemma => kernel_rfl)) (fun _ _ _ h => h) (Or.inl ⟨by rfl, ?_⟩) hHeld ?_ ?_
       rotate_left
       ·rintro w' ⟨s0, s1, s2, s3, s4, s5, s6, s7⟩
        go_simp
        with_reducible rfl
       rotate_left
       ·simp only [Act.put, List.setIfInBounds_toArray, List.set_cons_zero, List.set_cons_succ, i64_w, i32_w]
        rfl
       refine one_ (i := 1) (N := some 39) #[true, true, false, false, false, false, false, false, false, false, false, false, false, false, false, false, false, false, false, false, false, false, false, false, false, false, false, false, false, false, false, false, false, false, false, false, false, false, false, false, false, false, false] rfl rfl (one_of HT_.out (by as_aux_lemma => kernel_rfl)) (by decide) (fun K hK => ?_)
       refine gq_ Try.func18 (by as_aux_lemma => kernel_rfl) rfl #[.agg #[.int .i64 t540, .int .i64 t541, .int .u8 t542, .slice Ao47 t543.length co47]] (by rfl) rfl rfl ?_
       with_reducible refine (maptext_May.calls kj4 t540 t541 t542 _ _ t543 true _ ?side1 ?side2 A48.out).mono ?_
       (case side1 => repeat (first | exact (Kd.R_reads' HO545.out).2.2 | (with_reducible refine Kd.C_alloc ?_ _) | (with_reducible refine Kd.C_drewN ?_ _) | (with_reducible refine Kd.C_drew ?_)))
       (case side2 => exact (Kd.R_reads' HO545.out).2.1)
       rintro e w86 ⟨rfl, hb⟩
       refine ⟨_, rfl, ?_⟩
       have n0_ := Aside0.mk (Kd.R_below (by (with_reducible repeat (first | apply Kd.R_alloc | apply Kd.R_drewN | apply Kd.R_drew)); exact HO545.out) hb)
       have n1_ := bb_ BK530 hb
       have n2_ := bb_ BK531 hb
       have n3_ := bb_ BK539 hb
       have n4_ := bb_ BK546 hb
       have n5_ := bs_ HB hb
       clear HO545
       clear BK530
       clear BK531
       clear BK539
       clear BK546
       clear HB
       have HO545 := n0_
       have BK530 := n1_
       have BK531 := n2_
       have BK539 := n3_
       have BK546 := n4_
       have HB := n5_
       clear n0_ n1_ n2_ n3_ n4_ n5_
       (try clear hb)
       (try clear hb2)
       (try clear hk)
       (try clear hi)
       refine hK.out _ _ ⟨(blk_cell BK546.out 0).trans rfl, (blk_cell BK546.out 1).trans rfl, (blk_cell BK546.out 2).trans rfl, (blk_cell BK546.out 3).trans rfl, (blk_cell BK531.out 0).trans rfl, (blk_cell BK531.out 1).trans rfl, (blk_cell BK531.out 2).trans rfl, (blk_cell BK531.out 3).trans rfl⟩ (fun hHeld => ?_)
       clear hK K
       refine norm_ (a' := ?_) ?_ ?_
       rotate_left
       ·show Act.put _ (some 39) _ = _
        simp only [Act.put, List.setIfInBounds_toArray, List.set_cons_zero, List.set_cons_succ, i64_w, i32_w]
        rfl
       refine pu_ 2 40 (lb_ 43 7) rfl rfl (any_of HT_.out (by as_aux_lemma => kernel_rfl)) ?_
       refine pu_ 3 41 (lb_ 43 15) rfl rfl (any_of HT_.out (by as_aux_lemma => kernel_rfl)) ?_
       refine pu_ 4 42 (lb_ 43 31) rfl rfl (any_of HT_.out (by as_aux_lemma => kernel_rfl)) ?_
       refine pu_ 7 45 (lb_ 43 159) rfl rfl (any_of HT_.out (by as_aux_lemma => kernel_rfl)) ?_
       refine take_ (i := 5) (N := some 43) (v := ?_) (a' := ?_) #[true, true, true, true, true, true, false, true, false, false, false, false, false, false, false, false, false, false, false, false, false, false, false, false, false, false, false, false, false, false, false, false, false, false, false, false, false, false, false, false, false, false, false] rfl rfl (take_ofW HT_.out HW_.out (by as_aux_lemma => kernel_rfl)) (fun _ _ _ h => h) (Or.inl ⟨by rfl, ?_⟩) hHeld ?_ ?_
       rotate_left
       ·rintro w' ⟨s0, s1, s2, s3, s4, s5, s6, s7⟩
        go_simp
        with_reducible rfl
       rotate_left
       ·simp only [Act.put, List.setIfInBounds_toArray, List.set_cons_zero, List.set_cons_succ, i64_w, i32_w]
        rfl
       refine take_ (i := 8) (N := some 46) (v := ?_) (a' := ?_) #[true, true, true, true, true, true, false, true, true, false, false, false, false, false, false, false, false, false, false, false, false, false, false, false, false, false, false, false, false, false, false, false, false, false, false, false, false, false, false, false, false, false, false] rfl rfl (take_ofW HT_.out HW_.out (by as_aux_lemma => kernel_rfl)) (fun _ _ _ h => h) (Or.inl ⟨by rfl, ?_⟩) hHeld ?_ ?_
       rotate_left
       ·rintro w' ⟨s0, s1, s2, s3, s4, s5, s6, s7⟩
        go_simp
        with_reducible rfl
       rotate_left
       ·simp only [Act.put, List.setIfInBounds_toArray, List.set_cons_zero, List.set_cons_succ, i64_w, i32_w]
        rfl
       refine one_ (i := 6) (N := some 44) #[true, true, true, true, true, true, true, true, true, false, false, false, false, false, false, false, false, false, false, false, false, false, false, false, false, false, false, false, false, false, false, false, false, false, false, false, false, false, false, false, false, false, false] rfl rfl (one_of HT_.out (by as_aux_lemma => kernel_rfl)) (by decide) (fun K hK => ?_)
       refine gq_ Try.func19 (by as_aux_lemma => kernel_rfl) rfl #[.slice Ao47 t543.length co47] (by rfl) rfl rfl ?_
       with_reducible refine (region_End.calls kj4 _ _ t543 t548 _ ?side1 ?side2 A50.out).mono ?_
       (case side1 => repeat (first | exact (Kd.R_reads' HO545.out).2.2 | (with_reducible refine Kd.C_alloc ?_ _) | (with_reducible refine Kd.C_drewN ?_ _) | (with_reducible refine Kd.C_drew ?_)))
       (case side2 => exact (Kd.R_reads' HO545.out).2.1)
       rintro e w87 ⟨rfl, hb⟩
       refine ⟨_, rfl, ?_⟩
       have n0_ := Aside0.mk (Kd.R_below (by (with_reducible repeat (first | apply Kd.R_alloc | apply Kd.R_drewN | apply Kd.R_drew)); exact HO545.out) hb)
       have n1_ := bb_ BK530 hb
       have n2_ := bb_ BK531 hb
       have n3_ := bb_ BK539 hb
       have n4_ := bb_ BK546 hb
       have n5_ := bs_ HB hb
       clear HO545
       clear BK530
       clear BK531
       clear BK539
       clear BK546
       clear HB
       have HO545 := n0_
       have BK530 := n1_
       have BK531 := n2_
       have BK539 := n3_
       have BK546 := n4_
       have HB := n5_
       clear n0_ n1_ n2_ n3_ n4_ n5_
       (try clear hb)
       (try clear hb2)
       (try clear hk)
       (try clear hi)
       refine hK.out _ _ ⟨(blk_cell BK546.out 0).trans rfl, (blk_cell BK546.out 1).trans rfl, (blk_cell BK546.out 2).trans rfl, (blk_cell BK546.out 3).trans rfl, (blk_cell BK531.out 0).trans rfl, (blk_cell BK531.out 1).trans rfl, (blk_cell BK531.out 2).trans rfl, (blk_cell BK531.out 3).trans rfl⟩ (fun hHeld => ?_)
       clear hK K
       refine norm_ (a' := ?_) ?_ ?_
       rotate_left
       ·show Act.put _ (some 44) _ = _
        simp only [Act.put, List.setIfInBounds_toArray, List.set_cons_zero, List.set_cons_succ, i64_w, i32_w]
        rfl
       refine one_ (i := 9) (N := some 47) #[true, true, true, true, true, true, true, true, true, true, false, false, false, false, false, false, false, false, false, false, false, false, false, false, false, false, false, false, false, false, false, false, false, false, false, false, false, false, false, false, false, false, false] rfl rfl (one_of HT_.out (by as_aux_lemma => kernel_rfl)) (by decide) (fun K hK => ?_)
       refine gq_ Try.func19 (by as_aux_lemma => kernel_rfl) rfl #[.slice A1_3 l1_3.length c1_3] (by rfl) rfl rfl ?_
       with_reducible refine (region_End.calls kj4 _ _ l1_3 t549 _ ?side1 ?side2 A51.out).mono ?_
       (case side1 => exact cb_ HR1_3 HB)
       (case side2 => exact HC1_3.out)
       rintro e w88 ⟨rfl, hb⟩
       refine ⟨_, rfl, ?_⟩
       have n0_ := Aside0.mk (Kd.R_below (by (with_reducible repeat (first | apply Kd.R_alloc | apply Kd.R_drewN | apply Kd.R_drew)); exact HO545.out) hb)
       have n1_ := bb_ BK530 hb
       have n2_ := bb_ BK531 hb
       have n3_ := bb_ BK539 hb
       have n4_ := bb_ BK546 hb
       have n5_ := bs_ HB hb
       clear HO545
       clear BK530
       clear BK531
       clear BK539
       clear BK546
       clear HB
       have HO545 := n0_
       have BK530 := n1_
       have BK531 := n2_
       have BK539 := n3_
       have BK546 := n4_
       have HB := n5_
       clear n0_ n1_ n2_ n3_ n4_ n5_
       (try clear hb)
       (try clear hb2)
       (try clear hk)
       (try clear hi)
       refine hK.out _ _ ⟨(blk_cell BK546.out 0).trans rfl, (blk_cell BK546.out 1).trans rfl, (blk_cell BK546.out 2).trans rfl, (blk_cell BK546.out 3).trans rfl, (blk_cell BK531.out 0).trans rfl, (blk_cell BK531.out 1).trans rfl, (blk_cell BK531.out 2).trans rfl, (blk_cell BK531.out 3).trans rfl⟩ (fun hHeld => ?_)
       clear hK K
       refine norm_ (a' := ?_) ?_ ?_
       rotate_left
       ·show Act.put _ (some 47) _ = _
        simp only [Act.put, List.setIfInBounds_toArray, List.set_cons_zero, List.set_cons_succ, i64_w, i32_w]
        rfl
       refine pu_ 10 48 (lb_ 43 2047) rfl rfl (any_of HT_.out (by as_aux_lemma => kernel_rfl)) ?_
       refine pu_ 11 49 (lb_ 43 4095) rfl rfl (any_of HT_.out (by as_aux_lemma => kernel_rfl)) ?_
       refine pu_ 12 50 (lb_ 43 8191) rfl rfl (any_of HT_.out (by as_aux_lemma => kernel_rfl)) ?_
       refine pd_ 13 51 (lb_ 43 16383) rfl rfl (any_of HT_.out (by as_aux_lemma => kernel_rfl)) ?_
       refine pd_ 14 52 (lb_ 43 32767) rfl rfl (any_of HT_.out (by as_aux_lemma => kernel_rfl)) ?_
       refine pd_ 15 53 (lb_ 43 65535) rfl rfl (any_of HT_.out (by as_aux_lemma => kernel_rfl)) ?_
       refine pd_ 16 54 (lb_ 43 131071) rfl rfl (any_of HT_.out (by as_aux_lemma => kernel_rfl)) ?_
       refine pd_ 17 55 (lb_ 43 262143) rfl rfl (any_of HT_.out (by as_aux_lemma => kernel_rfl)) ?_
       refine pd_ 18 56 (lb_ 43 524287) rfl rfl (any_of HT_.out (by as_aux_lemma => kernel_rfl)) ?_
       refine pd_ 19 57 (lb_ 43 1048575) rfl rfl (any_of HT_.out (by as_aux_lemma => kernel_rfl)) ?_
       refine pd_ 20 58 (lb_ 43 2097151) rfl rfl (any_of HT_.out (by as_aux_lemma => kernel_rfl)) ?_
       refine pd_ 21 59 (lb_ 43 4194303) rfl rfl (any_of HT_.out (by as_aux_lemma => kernel_rfl)) ?_
       refine pd_ 22 60 (lb_ 43 8388607) rfl rfl (any_of HT_.out (by as_aux_lemma => kernel_rfl)) ?_
       refine pd_ 23 61 (lb_ 43 16777215) rfl rfl (any_of HT_.out (by as_aux_lemma => kernel_rfl)) ?_
       refine pd_ 24 62 (lb_ 43 33554431) rfl rfl (any_of HT_.out (by as_aux_lemma => kernel_rfl)) ?_
       refine pd_ 25 63 (lb_ 43 67108863) rfl rfl (any_of HT_.out (by as_aux_lemma => kernel_rfl)) ?_
       refine pd_ 26 64 (lb_ 43 134217727) rfl rfl (any_of HT_.out (by as_aux_lemma => kernel_rfl)) ?_
       refine pd_ 27 65 (lb_ 43 268435455) rfl rfl (any_of HT_.out (by as_aux_lemma => kernel_rfl)) ?_
       refine pd_ 28 66 (lb_ 43 536870911) rfl rfl (any_of HT_.out (by as_aux_lemma => kernel_rfl)) ?_
       refine pd_ 29 67 (lb_ 43 1073741823) rfl rfl (any_of HT_.out (by as_aux_lemma => kernel_rfl)) ?_
       refine pd_ 30 68 (lb_ 43 2147483647) rfl rfl (any_of HT_.out (by as_aux_lemma => kernel_rfl)) ?_
       refine pd_ 31 69 (lb_ 43 4294967295) rfl rfl (any_of HT_.out (by as_aux_lemma => kernel_rfl)) ?_
       refine pd_ 32 70 (lb_ 43 8589934591) rfl rfl (any_of HT_.out (by as_aux_lemma => kernel_rfl)) ?_
       refine pd_ 33 71 (lb_ 43 17179869183) rfl rfl (any_of HT_.out (by as_aux_lemma => kernel_rfl)) ?_
       refine pd_ 34 72 (lb_ 43 34359738367) rfl rfl (any_of HT_.out (by as_aux_lemma => kernel_rfl)) ?_
       refine pd_ 35 73 (lb_ 43 68719476735) rfl rfl (any_of HT_.out (by as_aux_lemma => kernel_rfl)) ?_
       refine pd_ 36 74 (lb_ 43 137438953471) rfl rfl (any_of HT_.out (by as_aux_lemma => kernel_rfl)) ?_
       refine pd_ 37 75 (lb_ 43 274877906943) rfl rfl (any_of HT_.out (by as_aux_lemma => kernel_rfl)) ?_
       refine pd_ 38 76 (lb_ 43 549755813887) rfl rfl (any_of HT_.out (by as_aux_lemma => kernel_rfl)) ?_
       refine pd_ 39 77 (lb_ 43 1099511627775) rfl rfl (any_of HT_.out (by as_aux_lemma => kernel_rfl)) ?_
       refine pd_ 40 78 (lb_ 43 2199023255551) rfl rfl (any_of HT_.out (by as_aux_lemma => kernel_rfl)) ?_
       refine pd_ 41 79 (lb_ 43 4398046511103) rfl rfl (any_of HT_.out (by as_aux_lemma => kernel_rfl)) ?_
       refine pu_ 42 80 (lb_ 43 8796093022207) rfl rfl (any_of HT_.out (by as_aux_lemma => kernel_rfl)) ?_
       refine done_ (done_of HT_.out (by as_aux_lemma => kernel_rfl)) ?_
       try go_wp2
       go_meet
       case rel => exact ⟨_, (true), (by first | rfl | (simp; done) | (simp [*]; done)), H', ⟨by have := HJ4.out; first | omega | exact Nat.le_refl _⟩, ⟨by (with_reducible repeat (first | apply Kd.R_alloc | apply Kd.R_drewN | apply Kd.R_drew)); exact HO545.out⟩, ⟨by (with_reducible repeat (first | refine blk_drewN ?_ _ | refine blk_drew ?_ | refine blk_alloc ?_ _)); exact BK530.out⟩, ⟨by (with_reducible repeat (first | refine blk_drewN ?_ _ | refine blk_drew ?_ | refine blk_alloc ?_ _)); exact BK531.out⟩, ⟨by (with_reducible repeat (first | refine blk_drewN ?_ _ | refine blk_drew ?_ | refine blk_alloc ?_ _)); exact BK539.out⟩, ⟨by (with_reducible repeat (first | refine blk_drewN ?_ _ | refine blk_drew ?_ | refine blk_alloc ?_ _)); exact BK546.out⟩, ⟨by repeat (first | (with_reducible first | exact HB.out | apply below_alloc | apply pw_below_drewN | apply below_drew1 | refine below_set ?_ GE530.out | refine below_set ?_ GE531.out | refine below_set ?_ GE539.out | refine below_set ?_ GE546.out) | exact HB.out)⟩⟩
     ·replace c49 := Bool.eq_false_iff.mpr c49
      subst c49
      have H1 : (salvorlaw18_PlanKeeps.j1 kj4 a3 true a1_0 a1_1 a1_2 l1_3 t536 t537 t538 t540 t541 t542 t543) = some r := by rw [if_neg (show ¬ (false = true) by decide)] at H; exact H
      clear H
      have H := H1
      clear H1
      have H' := Aside0.mk H
      clear H
      try go_wp2
      have n0_ : Aside0 (Kd.R k33 33 ((((w42.setCell ⟨gb546, 0, none⟩ (.int .i64 t540)).setCell ⟨gb546, 1, none⟩ (.int .i64 t541)).setCell ⟨gb546, 2, none⟩ (.int .u8 t542)).setCell ⟨gb546, 3, none⟩ (.slice Ao47 t543.length co47)) w.heap.size (fun _ => True) (.slice Ao47 t543.length co47) t543) := ⟨by (with_reducible repeat (first | apply Kd.R_alloc | apply Kd.R_drewN | apply Kd.R_drew)); exact Kd.R_mono (Kd.R_far (p := ⟨gb546, 3, none⟩) (Kd.R_far (p := ⟨gb546, 2, none⟩) (Kd.R_far (p := ⟨gb546, 1, none⟩) (Kd.R_far (p := ⟨gb546, 0, none⟩) (Kd.R_types HO545.out BK546.out (by decide)) (fun _ hk => hk.2) (.int .i64 t540)) (fun _ hk => hk.2) (.int .i64 t541)) (fun _ hk => hk.2) (.int .u8 t542)) (fun _ hk => hk.2) (.slice Ao47 t543.length co47)) (fun _ hk => trivial)⟩
      have n1_ : Aside0 (((((w42.setCell ⟨gb546, 0, none⟩ (.int .i64 t540)).setCell ⟨gb546, 1, none⟩ (.int .i64 t541)).setCell ⟨gb546, 2, none⟩ (.int .u8 t542)).setCell ⟨gb546, 3, none⟩ (.slice Ao47 t543.length co47)).heap[gb530]? = some (.cells #[.int .i64 a0_0, .int .i64 a0_1, .bool a0_2] 23 (0, 0))) := ⟨by (with_reducible repeat (first | refine blk_drewN ?_ _ | refine blk_drew ?_ | refine blk_alloc ?_ _)); refine blk_far ?_ NB530_546.out _; (with_reducible repeat (first | refine blk_drewN ?_ _ | refine blk_drew ?_ | refine blk_alloc ?_ _)); refine blk_far ?_ NB530_546.out _; (with_reducible repeat (first | refine blk_drewN ?_ _ | refine blk_drew ?_ | refine blk_alloc ?_ _)); refine blk_far ?_ NB530_546.out _; (with_reducible repeat (first | refine blk_drewN ?_ _ | refine blk_drew ?_ | refine blk_alloc ?_ _)); refine blk_far ?_ NB530_546.out _; (with_reducible repeat (first | refine blk_drewN ?_ _ | refine blk_drew ?_ | refine blk_alloc ?_ _)); exact BK530.out⟩
      have n2_ : Aside0 (((((w42.setCell ⟨gb546, 0, none⟩ (.int .i64 t540)).setCell ⟨gb546, 1, none⟩ (.int .i64 t541)).setCell ⟨gb546, 2, none⟩ (.int .u8 t542)).setCell ⟨gb546, 3, none⟩ (.slice Ao47 t543.length co47)).heap[gb531]? = some (.cells #[.int .i64 a1_0, .int .i64 a1_1, .int .u8 a1_2, .slice A1_3 l1_3.length c1_3] 26 (0, 0))) := ⟨by (with_reducible repeat (first | refine blk_drewN ?_ _ | refine blk_drew ?_ | refine blk_alloc ?_ _)); refine blk_far ?_ NB531_546.out _; (with_reducible repeat (first | refine blk_drewN ?_ _ | refine blk_drew ?_ | refine blk_alloc ?_ _)); refine blk_far ?_ NB531_546.out _; (with_reducible repeat (first | refine blk_drewN ?_ _ | refine blk_drew ?_ | refine blk_alloc ?_ _)); refine blk_far ?_ NB531_546.out _; (with_reducible repeat (first | refine blk_drewN ?_ _ | refine blk_drew ?_ | refine blk_alloc ?_ _)); refine blk_far ?_ NB531_546.out _; (with_reducible repeat (first | refine blk_drewN ?_ _ | refine blk_drew ?_ | refine blk_alloc ?_ _)); exact BK531.out⟩
      have n3_ : Aside0 (((((w42.setCell ⟨gb546, 0, none⟩ (.int .i64 t540)).setCell ⟨gb546, 1, none⟩ (.int .i64 t541)).setCell ⟨gb546, 2, none⟩ (.int .u8 t542)).setCell ⟨gb546, 3, none⟩ (.slice Ao47 t543.length co47)).heap[gb539]? = some (.cells #[.int .i64 t536, .int .i64 t537, .int .i64 t538] 29 (0, 0))) := ⟨by (with_reducible repeat (first | refine blk_drewN ?_ _ | refine blk_drew ?_ | refine blk_alloc ?_ _)); refine blk_far ?_ NB539_546.out _; (with_reducible repeat (first | refine blk_drewN ?_ _ | refine blk_drew ?_ | refine blk_alloc ?_ _)); refine blk_far ?_ NB539_546.out _; (with_reducible repeat (first | refine blk_drewN ?_ _ | refine blk_drew ?_ | refine blk_alloc ?_ _)); refine blk_far ?_ NB539_546.out _; (with_reducible repeat (first | refine blk_drewN ?_ _ | refine blk_drew ?_ | refine blk_alloc ?_ _)); refine blk_far ?_ NB539_546.out _; (with_reducible repeat (first | refine blk_drewN ?_ _ | refine blk_drew ?_ | refine blk_alloc ?_ _)); exact BK539.out⟩
      have n4_ : Aside0 (((((w42.setCell ⟨gb546, 0, none⟩ (.int .i64 t540)).setCell ⟨gb546, 1, none⟩ (.int .i64 t541)).setCell ⟨gb546, 2, none⟩ (.int .u8 t542)).setCell ⟨gb546, 3, none⟩ (.slice Ao47 t543.length co47)).heap[gb546]? = some (.cells #[.int .i64 t540, .int .i64 t541, .int .u8 t542, .slice Ao47 t543.length co47] 26 (0, 0))) := ⟨by (with_reducible repeat (first | refine blk_drewN ?_ _ | refine blk_drew ?_ | refine blk_alloc ?_ _)); refine blk_put (cs := #[.int .i64 t540, .int .i64 t541, .int .u8 t542, .slice none 0 0]) ?_ 3 _ rfl; (with_reducible repeat (first | refine blk_drewN ?_ _ | refine blk_drew ?_ | refine blk_alloc ?_ _)); refine blk_put (cs := #[.int .i64 t540, .int .i64 t541, .int .u8 0, .slice none 0 0]) ?_ 2 _ rfl; (with_reducible repeat (first | refine blk_drewN ?_ _ | refine blk_drew ?_ | refine blk_alloc ?_ _)); refine blk_put (cs := #[.int .i64 t540, .int .i64 0, .int .u8 0, .slice none 0 0]) ?_ 1 _ rfl; (with_reducible repeat (first | refine blk_drewN ?_ _ | refine blk_drew ?_ | refine blk_alloc ?_ _)); refine blk_put (cs := #[.int .i64 0, .int .i64 0, .int .u8 0, .slice none 0 0]) ?_ 0 _ rfl; (with_reducible repeat (first | refine blk_drewN ?_ _ | refine blk_drew ?_ | refine blk_alloc ?_ _)); exact BK546.out⟩
      have n5_ : Aside0 (Below w.heap.size w ((((w42.setCell ⟨gb546, 0, none⟩ (.int .i64 t540)).setCell ⟨gb546, 1, none⟩ (.int .i64 t541)).setCell ⟨gb546, 2, none⟩ (.int .u8 t542)).setCell ⟨gb546, 3, none⟩ (.slice Ao47 t543.length co47))) := ⟨by repeat (first | (with_reducible first | exact HB.out | apply below_alloc | apply pw_below_drewN | apply below_drew1 | refine below_set ?_ GE530.out | refine below_set ?_ GE531.out | refine below_set ?_ GE539.out | refine below_set ?_ GE546.out) | exact HB.out)⟩
      (try clear HO545)
      (try clear BK530)
      (try clear BK531)
      (try clear BK539)
      (try clear BK546)
      (try clear HB)
      generalize ((((w42.setCell ⟨gb546, 0, none⟩ (.int .i64 t540)).setCell ⟨gb546, 1, none⟩ (.int .i64 t541)).setCell ⟨gb546, 2, none⟩ (.int .u8 t542)).setCell ⟨gb546, 3, none⟩ (.slice Ao47 t543.length co47)) = w89 at n0_ n1_ n2_ n3_ n4_ n5_ ⊢
      have HO545 := n0_
      have BK530 := n1_
      have BK531 := n2_
      have BK539 := n3_
      have BK546 := n4_
      have HB := n5_
      clear n0_ n1_ n2_ n3_ n4_ n5_
      replace HO545 := Aside0.mk (Kd.R_drew HO545.out)
      replace BK530 := Aside0.mk (blk_drew BK530.out)
      replace BK531 := Aside0.mk (blk_drew BK531.out)
      replace BK539 := Aside0.mk (blk_drew BK539.out)
      replace BK546 := Aside0.mk (blk_drew BK546.out)
      replace HB := Aside0.mk (below_drew1 HB.out)
      refine start_ (n := 43) (S := fun w' => w'.cell? ⟨gb546, 0, none⟩ = some (.int .i64 t540) ∧ w'.cell? ⟨gb546, 1, none⟩ = some (.int .i64 t541) ∧ w'.cell? ⟨gb546, 2, none⟩ = some (.int .u8 t542) ∧ w'.cell? ⟨gb546, 3, none⟩ = some (.slice Ao47 t543.length co47)) (ds := []) #[false, false, false, false, false, false, false, false, false, false, false, false, false, false, false, false, false, false, false, false, false, false, false, false, false, false, false, false, false, false, false, false, false, false, false, false, false, false, false, false, false, false, false] (by as_aux_lemma => kernel_rfl) rfl rfl ⟨(blk_cell BK546.out 0).trans rfl, (blk_cell BK546.out 1).trans rfl, (blk_cell BK546.out 2).trans rfl, (blk_cell BK546.out 3).trans rfl⟩ (fun hHeld => ?_); refine with_tabW salvorlaw18_PlanKeeps.tab5 salvorlaw18_PlanKeeps.bits5 (fun HT_ HW_ => ?_)
      generalize w89.drew = w90 at HO545 BK530 BK531 BK539 BK546 HB hHeld ⊢
      refine take_ (i := 0) (N := some 38) (v := ?_) (a' := ?_) #[true, false, false, false, false, false, false, false, false, false, false, false, false, false, false, false, false, false, false, false, false, false, false, false, false, false, false, false, false, false, false, false, false, false, false, false, false, false, false, false, false, false, false] rfl rfl (take_ofW HT_.out HW_.out (by as_aux_lemma => kernel_rfl)) (fun _ _ _ h => h) (Or.inl ⟨by rfl, ?_⟩) hHeld ?_ ?_
      rotate_left
      ·rintro w' ⟨s0, s1, s2, s3⟩
       go_simp
       with_reducible rfl
      rotate_left
      ·simp only [Act.put, List.setIfInBounds_toArray, List.set_cons_zero, List.set_cons_succ, i64_w, i32_w]
       rfl
      refine one_ (i := 1) (N := some 39) #[true, true, false, false, false, false, false, false, false, false, false, false, false, false, false, false, false, false, false, false, false, false, false, false, false, false, false, false, false, false, false, false, false, false, false, false, false, false, false, false, false, false, false] rfl rfl (one_of HT_.out (by as_aux_lemma => kernel_rfl)) (by decide) (fun K hK => ?_)
      refine gq_ Try.func18 (by as_aux_lemma => kernel_rfl) rfl #[.agg #[.int .i64 t540, .int .i64 t541, .int .u8 t542, .slice Ao47 t543.length co47]] (by rfl) rfl rfl ?_
      with_reducible refine (maptext_May.calls kj4 t540 t541 t542 _ _ t543 false _ ?side1 ?side2 A48.out).mono ?_
      (case side1 => repeat (first | exact (Kd.R_reads' HO545.out).2.2 | (with_reducible refine Kd.C_alloc ?_ _) | (with_reducible refine Kd.C_drewN ?_ _) | (with_reducible refine Kd.C_drew ?_)))
      (case side2 => exact (Kd.R_reads' HO545.out).2.1)
      rintro e w91 ⟨rfl, hb⟩
      refine ⟨_, rfl, ?_⟩
      have n0_ := Aside0.mk (Kd.R_below (by (with_reducible repeat (first | apply Kd.R_alloc | apply Kd.R_drewN | apply Kd.R_drew)); exact HO545.out) hb)
      have n1_ := bb_ BK530 hb
      have n2_ := bb_ BK531 hb
      have n3_ := bb_ BK539 hb
      have n4_ := bb_ BK546 hb
      have n5_ := bs_ HB hb
      clear HO545
      clear BK530
      clear BK531
      clear BK539
      clear BK546
      clear HB
      have HO545 := n0_
      have BK530 := n1_
      have BK531 := n2_
      have BK539 := n3_
      have BK546 := n4_
      have HB := n5_
      clear n0_ n1_ n2_ n3_ n4_ n5_
      (try clear hb)
      (try clear hb2)
      (try clear hk)
      (try clear hi)
      refine hK.out _ _ ⟨(blk_cell BK546.out 0).trans rfl, (blk_cell BK546.out 1).trans rfl, (blk_cell BK546.out 2).trans rfl, (blk_cell BK546.out 3).trans rfl⟩ (fun hHeld => ?_)
      clear hK K
      refine norm_ (a' := ?_) ?_ ?_
      rotate_left
      ·show Act.put _ (some 39) _ = _
       simp only [Act.put, List.setIfInBounds_toArray, List.set_cons_zero, List.set_cons_succ, i64_w, i32_w]
       rfl
      refine pu_ 2 40 (lb_ 43 7) rfl rfl (any_of HT_.out (by as_aux_lemma => kernel_rfl)) ?_
      refine pu_ 3 41 (lb_ 43 15) rfl rfl (any_of HT_.out (by as_aux_lemma => kernel_rfl)) ?_
      refine pd_ 4 42 (lb_ 43 31) rfl rfl (any_of HT_.out (by as_aux_lemma => kernel_rfl)) ?_
      refine pd_ 5 43 (lb_ 43 63) rfl rfl (any_of HT_.out (by as_aux_lemma => kernel_rfl)) ?_
      refine pd_ 6 44 (lb_ 43 127) rfl rfl (any_of HT_.out (by as_aux_lemma => kernel_rfl)) ?_
      refine pd_ 7 45 (lb_ 43 255) rfl rfl (any_of HT_.out (by as_aux_lemma => kernel_rfl)) ?_
      refine pd_ 8 46 (lb_ 43 511) rfl rfl (any_of HT_.out (by as_aux_lemma => kernel_rfl)) ?_
      refine pd_ 9 47 (lb_ 43 1023) rfl rfl (any_of HT_.out (by as_aux_lemma => kernel_rfl)) ?_
      refine pd_ 10 48 (lb_ 43 2047) rfl rfl (any_of HT_.out (by as_aux_lemma => kernel_rfl)) ?_
      refine pu_ 11 49 (lb_ 43 4095) rfl rfl (any_of HT_.out (by as_aux_lemma => kernel_rfl)) ?_
      refine pu_ 12 50 (lb_ 43 8191) rfl rfl (any_of HT_.out (by as_aux_lemma => kernel_rfl)) ?_
      refine pd_ 13 51 (lb_ 43 16383) rfl rfl (any_of HT_.out (by as_aux_lemma => kernel_rfl)) ?_
      refine pd_ 14 52 (lb_ 43 32767) rfl rfl (any_of HT_.out (by as_aux_lemma => kernel_rfl)) ?_
      refine pd_ 15 53 (lb_ 43 65535) rfl rfl (any_of HT_.out (by as_aux_lemma => kernel_rfl)) ?_
      refine pd_ 16 54 (lb_ 43 131071) rfl rfl (any_of HT_.out (by as_aux_lemma => kernel_rfl)) ?_
      refine pd_ 17 55 (lb_ 43 262143) rfl rfl (any_of HT_.out (by as_aux_lemma => kernel_rfl)) ?_
      refine pd_ 18 56 (lb_ 43 524287) rfl rfl (any_of HT_.out (by as_aux_lemma => kernel_rfl)) ?_
      refine pd_ 19 57 (lb_ 43 1048575) rfl rfl (any_of HT_.out (by as_aux_lemma => kernel_rfl)) ?_
      refine pd_ 20 58 (lb_ 43 2097151) rfl rfl (any_of HT_.out (by as_aux_lemma => kernel_rfl)) ?_
      refine pd_ 21 59 (lb_ 43 4194303) rfl rfl (any_of HT_.out (by as_aux_lemma => kernel_rfl)) ?_
      refine pd_ 22 60 (lb_ 43 8388607) rfl rfl (any_of HT_.out (by as_aux_lemma => kernel_rfl)) ?_
      refine pd_ 23 61 (lb_ 43 16777215) rfl rfl (any_of HT_.out (by as_aux_lemma => kernel_rfl)) ?_
      refine pd_ 24 62 (lb_ 43 33554431) rfl rfl (any_of HT_.out (by as_aux_lemma => kernel_rfl)) ?_
      refine pd_ 25 63 (lb_ 43 67108863) rfl rfl (any_of HT_.out (by as_aux_lemma => kernel_rfl)) ?_
      refine pd_ 26 64 (lb_ 43 134217727) rfl rfl (any_of HT_.out (by as_aux_lemma => kernel_rfl)) ?_
      refine pd_ 27 65 (lb_ 43 268435455) rfl rfl (any_of HT_.out (by as_aux_lemma => kernel_rfl)) ?_
      refine pd_ 28 66 (lb_ 43 536870911) rfl rfl (any_of HT_.out (by as_aux_lemma => kernel_rfl)) ?_
      refine pd_ 29 67 (lb_ 43 1073741823) rfl rfl (any_of HT_.out (by as_aux_lemma => kernel_rfl)) ?_
      refine pd_ 30 68 (lb_ 43 2147483647) rfl rfl (any_of HT_.out (by as_aux_lemma => kernel_rfl)) ?_
      refine pd_ 31 69 (lb_ 43 4294967295) rfl rfl (any_of HT_.out (by as_aux_lemma => kernel_rfl)) ?_
      refine pd_ 32 70 (lb_ 43 8589934591) rfl rfl (any_of HT_.out (by as_aux_lemma => kernel_rfl)) ?_
      refine pd_ 33 71 (lb_ 43 17179869183) rfl rfl (any_of HT_.out (by as_aux_lemma => kernel_rfl)) ?_
      refine pd_ 34 72 (lb_ 43 34359738367) rfl rfl (any_of HT_.out (by as_aux_lemma => kernel_rfl)) ?_
      refine pd_ 35 73 (lb_ 43 68719476735) rfl rfl (any_of HT_.out (by as_aux_lemma => kernel_rfl)) ?_
      refine pd_ 36 74 (lb_ 43 137438953471) rfl rfl (any_of HT_.out (by as_aux_lemma => kernel_rfl)) ?_
      refine pd_ 37 75 (lb_ 43 274877906943) rfl rfl (any_of HT_.out (by as_aux_lemma => kernel_rfl)) ?_
      refine pd_ 38 76 (lb_ 43 549755813887) rfl rfl (any_of HT_.out (by as_aux_lemma => kernel_rfl)) ?_
      refine pd_ 39 77 (lb_ 43 1099511627775) rfl rfl (any_of HT_.out (by as_aux_lemma => kernel_rfl)) ?_
      refine pd_ 40 78 (lb_ 43 2199023255551) rfl rfl (any_of HT_.out (by as_aux_lemma => kernel_rfl)) ?_
      refine pd_ 41 79 (lb_ 43 4398046511103) rfl rfl (any_of HT_.out (by as_aux_lemma => kernel_rfl)) ?_
      refine pu_ 42 80 (lb_ 43 8796093022207) rfl rfl (any_of HT_.out (by as_aux_lemma => kernel_rfl)) ?_
      refine done_ (done_of HT_.out (by as_aux_lemma => kernel_rfl)) ?_
      try go_wp2
      go_meet
      case rel => exact ⟨_, (true), (by first | rfl | (simp; done) | (simp [*]; done)), H', ⟨by have := HJ4.out; first | omega | exact Nat.le_refl _⟩, ⟨by (with_reducible repeat (first | apply Kd.R_alloc | apply Kd.R_drewN | apply Kd.R_drew)); exact HO545.out⟩, ⟨by (with_reducible repeat (first | refine blk_drewN ?_ _ | refine blk_drew ?_ | refine blk_alloc ?_ _)); exact BK530.out⟩, ⟨by (with_reducible repeat (first | refine blk_drewN ?_ _ | refine blk_drew ?_ | refine blk_alloc ?_ _)); exact BK531.out⟩, ⟨by (with_reducible repeat (first | refine blk_drewN ?_ _ | refine blk_drew ?_ | refine blk_alloc ?_ _)); exact BK539.out⟩, ⟨by (with_reducible repeat (first | refine blk_drewN ?_ _ | refine blk_drew ?_ | refine blk_alloc ?_ _)); exact BK546.out⟩, ⟨by repeat (first | (with_reducible first | exact HB.out | apply below_alloc | apply pw_below_drewN | apply below_drew1 | refine below_set ?_ GE530.out | refine below_set ?_ GE531.out | refine below_set ?_ GE539.out | refine below_set ?_ GE546.out) | exact HB.out)⟩⟩
    case rest =>
     clear HC30
     try clear c1
     try clear p2
     try clear c4
     try clear c18
     try clear c19
     try clear c49
     obtain ⟨kq, x80_29, rfl, HA, HJ29, HO_547003, BK530, BK531, BK539, BK546, HB⟩ := hcut
     cases kq with
     | zero => exact absurd HA.out (by simp [salvorlaw18_PlanKeeps.j1])
     | succ kj29 =>
      have H := HA.out
      clear HA
      simp only [salvorlaw18_PlanKeeps.j1] at H
      by_cases c92 : x80_29 = true
      ·subst c92
       have H1 : (some false) = some r := by rw [if_pos rfl] at H; exact H
       clear H
       have H := H1
       clear H1
       exact absurd ((Option.some.inj H).trans HT.out) (by simp)
      ·replace c92 := Bool.eq_false_iff.mpr c92
       subst c92
       have H1 : ((region_At.f kj29 l1_3 a3).bind fun bt551 => ((region_At.f kj29 t543 a3).bind fun bt556 => (if t536 = 0 then (salvorlaw18_PlanKeeps.j2 kj29 bt551.2.2.2 bt556.2.2.2 false bt551.1 bt551.2.1 bt551.2.2.1 bt556.1 bt556.2.1 bt556.2.2.1) else (if a3 ≥ t537 then (salvorlaw18_PlanKeeps.j2 kj29 bt551.2.2.2 bt556.2.2.2 (decide (a3 < (wrap64 (t537 + t538)))) bt551.1 bt551.2.1 bt551.2.2.1 bt556.1 bt556.2.1 bt556.2.2.1) else (salvorlaw18_PlanKeeps.j2 kj29 bt551.2.2.2 bt556.2.2.2 false bt551.1 bt551.2.1 bt551.2.2.1 bt556.1 bt556.2.1 bt556.2.2.1))))) = some r := by rw [if_neg (show ¬ (false = true) by decide)] at H; exact H
       clear H
       have H := H1
       clear H1
       replace H := Option.bind_eq_some_iff.mp H
       obtain ⟨⟨t551, t552, t553, t554⟩, A930, H⟩ := H
       replace H : ((region_At.f kj29 t543 a3).bind fun bt556 => (if t536 = 0 then (salvorlaw18_PlanKeeps.j2 kj29 t554 bt556.2.2.2 false t551 t552 t553 bt556.1 bt556.2.1 bt556.2.2.1) else (if a3 ≥ t537 then (salvorlaw18_PlanKeeps.j2 kj29 t554 bt556.2.2.2 (decide (a3 < (wrap64 (t537 + t538)))) t551 t552 t553 bt556.1 bt556.2.1 bt556.2.2.1) else (salvorlaw18_PlanKeeps.j2 kj29 t554 bt556.2.2.2 false t551 t552 t553 bt556.1 bt556.2.1 bt556.2.2.1)))) = some r := H
       have A93 := Aside0.mk A930
       clear A930
       replace H := Option.bind_eq_some_iff.mp H
       obtain ⟨⟨t556, t557, t558, t559⟩, A940, H⟩ := H
       replace H : (if t536 = 0 then (salvorlaw18_PlanKeeps.j2 kj29 t554 t559 false t551 t552 t553 t556 t557 t558) else (if a3 ≥ t537 then (salvorlaw18_PlanKeeps.j2 kj29 t554 t559 (decide (a3 < (wrap64 (t537 + t538)))) t551 t552 t553 t556 t557 t558) else (salvorlaw18_PlanKeeps.j2 kj29 t554 t559 false t551 t552 t553 t556 t557 t558))) = some r := H
       have A94 := Aside0.mk A940
       clear A940
       have HC95 := Aside0.mk H
       clear H
       have hnb96 := NB531_530.out
       have hnc96 := NB530_531.out
       have hnb97 := NB531_539.out
       have hnc97 := NB539_531.out
       have hnb98 := NB531_546.out
       have hnc98 := NB546_531.out
       have hcz99_0 : wc.cell? ⟨gb531, 0, none⟩ = some (.int .i64 a1_0) := (blk_cell BK531.out 0).trans rfl
       have hcz99_1 : wc.cell? ⟨gb531, 1, none⟩ = some (.int .i64 a1_1) := (blk_cell BK531.out 1).trans rfl
       have hcz99_2 : wc.cell? ⟨gb531, 2, none⟩ = some (.int .u8 a1_2) := (blk_cell BK531.out 2).trans rfl
       have hcz99_3 : wc.cell? ⟨gb531, 3, none⟩ = some (.slice A1_3 l1_3.length c1_3) := (blk_cell BK531.out 3).trans rfl
       have hfz99_0 := blk_frozen BK531.out 0
       have hfz99_1 := blk_frozen BK531.out 1
       have hfz99_2 := blk_frozen BK531.out 2
       have hfz99_3 := blk_frozen BK531.out 3
       go_upto_region 9 with (first | ((with_reducible refine gate_callee (f := 20) rfl ?_); refine gl_ (some 85) rfl rfl Try.func20 (by as_aux_lemma => kernel_rfl) rfl #[.slice A1_3 l1_3.length c1_3, .int .i64 a3] rfl ?_; (with_reducible refine (region_At.calls kj29 _ _ l1_3 a3 t551 t552 t553 t554 _ ?side1 ?side2 A93.out).mono ?_); (case side1 => exact cb_ HR1_3 HB); (case side2 => exact HC1_3.out); rintro e w100 ⟨rfl, hb⟩; refine ⟨_, rfl, ?_⟩; have n0_ := Aside0.mk (Kd.R_below (by (with_reducible repeat (first | apply Kd.R_alloc | apply Kd.R_drewN | apply Kd.R_drew)); exact HO_547003.out) hb); have n1_ := bb_ BK530 hb; have n2_ := bb_ BK531 hb; have n3_ := bb_ BK539 hb; have n4_ := bb_ BK546 hb; have n5_ := bs_ HB hb; clear HO_547003; clear BK530; clear BK531; clear BK539; clear BK546; clear HB; have HO_547003 := n0_; have BK530 := n1_; have BK531 := n2_; have BK539 := n3_; have BK546 := n4_; have HB := n5_; clear n0_ n1_ n2_ n3_ n4_ n5_; (try clear hb); (try clear hb2); (try clear hk); (try clear hi)) | ((with_reducible refine gate_dst (N := 11) rfl ?_); refine box_e 11 #[.int .i64 0, .int .i64 0, .int .u8 0] 33 ?_; intro gb555 hg w101 hbox hb; have n0_ := Aside0.mk (Kd.R_below (Kd.R_elderB (by (with_reducible repeat (first | apply Kd.R_alloc | apply Kd.R_drewN | apply Kd.R_drew)); exact HO_547003.out) gb555 (Nat.le_of_eq hg.symm)) hb); have n1_ := bb_ BK530 hb; have n2_ := bb_ BK531 hb; have n3_ := bb_ BK539 hb; have n4_ := bb_ BK546 hb; have n5_ := bs_ HB hb; have n6_ := Aside0.mk hbox; have n7_ := bg_ HB hg; have n8_ := bg_ HB hg; have n9_ := bn_ BK530 hg; have n10_ := bm_ BK530 hg; have n11_ := bn_ BK531 hg; have n12_ := bm_ BK531 hg; have n13_ := bn_ BK539 hg; have n14_ := bm_ BK539 hg; have n15_ := bn_ BK546 hg; have n16_ := bm_ BK546 hg; clear HO_547003; clear BK530; clear BK531; clear BK539; clear BK546; clear HB; have HO_547003 := n0_; have BK530 := n1_; have BK531 := n2_; have BK539 := n3_; have BK546 := n4_; have HB := n5_; have BK555 := n6_; have GW555 := n7_; have GE555 := n8_; have NB530_555 := n9_; have NB555_530 := n10_; have NB531_555 := n11_; have NB555_531 := n12_; have NB539_555 := n13_; have NB555_539 := n14_; have NB546_555 := n15_; have NB555_546 := n16_; clear n0_ n1_ n2_ n3_ n4_ n5_ n6_ n7_ n8_ n9_ n10_ n11_ n12_ n13_ n14_ n15_ n16_; clear hb hbox hg; have hnb102 := NB555_530.out; have hnc102 := NB530_555.out; have hnb103 := NB555_531.out; have hnc103 := NB531_555.out; have hnb104 := NB555_539.out; have hnc104 := NB539_555.out; have hnb105 := NB555_546.out; have hnc105 := NB546_555.out; have hcz106_0 : w101.cell? ⟨gb555, 0, none⟩ = some (.int .i64 0) := (blk_cell BK555.out 0).trans rfl; have hcz106_1 : w101.cell? ⟨gb555, 1, none⟩ = some (.int .i64 0) := (blk_cell BK555.out 1).trans rfl; have hcz106_2 : w101.cell? ⟨gb555, 2, none⟩ = some (.int .u8 0) := (blk_cell BK555.out 2).trans rfl; have hfz106_0 := blk_frozen BK555.out 0; have hfz106_1 := blk_frozen BK555.out 1; have hfz106_2 := blk_frozen BK555.out 2; have hnb107 := NB546_530.out; have hnc107 := NB530_546.out; have hnb108 := NB546_539.out; have hnc108 := NB539_546.out; have hcz109_0 : w101.cell? ⟨gb546, 0, none⟩ = some (.int .i64 t540) := (blk_cell BK546.out 0).trans rfl; have hcz109_1 : w101.cell? ⟨gb546, 1, none⟩ = some (.int .i64 t541) := (blk_cell BK546.out 1).trans rfl; have hcz109_2 : w101.cell? ⟨gb546, 2, none⟩ = some (.int .u8 t542) := (blk_cell BK546.out 2).trans rfl; have hcz109_3 : w101.cell? ⟨gb546, 3, none⟩ = some (.slice Ao47 t543.length co47) := (blk_cell BK546.out 3).trans rfl; have hfz109_0 := blk_frozen BK546.out 0; have hfz109_1 := blk_frozen BK546.out 1; have hfz109_2 := blk_frozen BK546.out 2; have hfz109_3 := blk_frozen BK546.out 3) | ((with_reducible refine gate_callee (f := 20) rfl ?_); refine gl_ (some 92) rfl rfl Try.func20 (by as_aux_lemma => kernel_rfl) rfl #[.slice Ao47 t543.length co47, .int .i64 a3] rfl ?_; (with_reducible refine (region_At.calls kj29 _ _ t543 a3 t556 t557 t558 t559 _ ?side1 ?side2 A94.out).mono ?_); (case side1 => refine (Kd.R_reads' (e := 33) (base := w.heap.size) (ok := fun k_ => (True ∧ k_ ≠ gb555)) (n := t543.length) (c := co47) ?_).2.2; exact (by (with_reducible repeat (first | apply Kd.R_alloc | apply Kd.R_drewN | apply Kd.R_drew)); exact (Kd.R_mono (Kd.R_far (p := ⟨gb555, 2, none⟩) (Kd.R_far (p := ⟨gb555, 1, none⟩) (Kd.R_far (p := ⟨gb555, 0, none⟩) (Kd.R_mono HO_547003.out (fun k_ hk => (⟨hk, hk.2⟩ : _ ∧ k_ ≠ gb555))) (fun _ hk => hk.2) (.int .i64 t551)) (fun _ hk => hk.2) (.int .i64 t552)) (fun _ hk => hk.2) (.int .u8 t553)) (fun _ h_ => h_.1)))); (case side2 => exact (Kd.R_reads' HO_547003.out).2.1); rintro e w110 ⟨rfl, hb⟩; refine ⟨_, rfl, ?_⟩; have n0_ := Aside0.mk (Kd.R_below (by (with_reducible repeat (first | apply Kd.R_alloc | apply Kd.R_drewN | apply Kd.R_drew)); exact (Kd.R_mono (Kd.R_far (p := ⟨gb555, 2, none⟩) (Kd.R_far (p := ⟨gb555, 1, none⟩) (Kd.R_far (p := ⟨gb555, 0, none⟩) (Kd.R_mono HO_547003.out (fun k_ hk => (⟨hk, hk.2⟩ : _ ∧ k_ ≠ gb555))) (fun _ hk => hk.2) (.int .i64 t551)) (fun _ hk => hk.2) (.int .i64 t552)) (fun _ hk => hk.2) (.int .u8 t553)) (fun _ h_ => h_.1))) hb); have n1_ := Aside0.mk (blk_below (g := gb530) (o := .cells #[.int .i64 a0_0, .int .i64 a0_1, .bool a0_2] 23 (0, 0)) (bp_ BK530) hb); have n2_ := Aside0.mk (blk_below (g := gb531) (o := .cells #[.int .i64 a1_0, .int .i64 a1_1, .int .u8 a1_2, .slice A1_3 l1_3.length c1_3] 26 (0, 0)) (bp_ BK531) hb); have n3_ := Aside0.mk (blk_below (g := gb539) (o := .cells #[.int .i64 t536, .int .i64 t537, .int .i64 t538] 29 (0, 0)) (bp_ BK539) hb); have n4_ := Aside0.mk (blk_below (g := gb546) (o := .cells #[.int .i64 t540, .int .i64 t541, .int .u8 t542, .slice Ao47 t543.length co47] 26 (0, 0)) (bp_ BK546) hb); have n5_ := Aside0.mk (blk_below (g := gb555) (o := .cells #[.int .i64 t551, .int .i64 t552, .int .u8 t553] 33 (0, 0)) (bp_ BK555) hb); have n6_ := bs_ HB hb; clear HO_547003; clear BK530; clear BK531; clear BK539; clear BK546; clear BK555; clear HB; have HO_547003 := n0_; have BK530 := n1_; have BK531 := n2_; have BK539 := n3_; have BK546 := n4_; have BK555 := n5_; have HB := n6_; clear n0_ n1_ n2_ n3_ n4_ n5_ n6_; (try clear hb); (try clear hb2); (try clear hk); (try clear hi)) | ((with_reducible refine gate_dst (N := 13) rfl ?_); refine box_e 13 #[.int .i64 0, .int .i64 0, .int .u8 0] 33 ?_; intro gb560 hg w111 hbox hb; have n0_ := Aside0.mk (Kd.R_below (Kd.R_elderB (by (with_reducible repeat (first | apply Kd.R_alloc | apply Kd.R_drewN | apply Kd.R_drew)); exact HO_547003.out) gb560 (Nat.le_of_eq hg.symm)) hb); have n1_ := bb_ BK530 hb; have n2_ := bb_ BK531 hb; have n3_ := bb_ BK539 hb; have n4_ := bb_ BK546 hb; have n5_ := bb_ BK555 hb; have n6_ := bs_ HB hb; have n7_ := Aside0.mk hbox; have n8_ := bg_ HB hg; have n9_ := bg_ HB hg; have n10_ := bn_ BK530 hg; have n11_ := bm_ BK530 hg; have n12_ := bn_ BK531 hg; have n13_ := bm_ BK531 hg; have n14_ := bn_ BK539 hg; have n15_ := bm_ BK539 hg; have n16_ := bn_ BK546 hg; have n17_ := bm_ BK546 hg; have n18_ := bn_ BK555 hg; have n19_ := bm_ BK555 hg; clear HO_547003; clear BK530; clear BK531; clear BK539; clear BK546; clear BK555; clear HB; have HO_547003 := n0_; have BK530 := n1_; have BK531 := n2_; have BK539 := n3_; have BK546 := n4_; have BK555 := n5_; have HB := n6_; have BK560 := n7_; have GW560 := n8_; have GE560 := n9_; have NB530_560 := n10_; have NB560_530 := n11_; have NB531_560 := n12_; have NB560_531 := n13_; have NB539_560 := n14_; have NB560_539 := n15_; have NB546_560 := n16_; have NB560_546 := n17_; have NB555_560 := n18_; have NB560_555 := n19_; clear n0_ n1_ n2_ n3_ n4_ n5_ n6_ n7_ n8_ n9_ n10_ n11_ n12_ n13_ n14_ n15_ n16_ n17_ n18_ n19_; clear hb hbox hg; have hnb112 := NB560_530.out; have hnc112 := NB530_560.out; have hnb113 := NB560_531.out; have hnc113 := NB531_560.out; have hnb114 := NB560_539.out; have hnc114 := NB539_560.out; have hnb115 := NB560_546.out; have hnc115 := NB546_560.out; have hnb116 := NB560_555.out; have hnc116 := NB555_560.out; have hcz117_0 : w111.cell? ⟨gb560, 0, none⟩ = some (.int .i64 0) := (blk_cell BK560.out 0).trans rfl; have hcz117_1 : w111.cell? ⟨gb560, 1, none⟩ = some (.int .i64 0) := (blk_cell BK560.out 1).trans rfl; have hcz117_2 : w111.cell? ⟨gb560, 2, none⟩ = some (.int .u8 0) := (blk_cell BK560.out 2).trans rfl; have hfz117_0 := blk_frozen BK560.out 0; have hfz117_1 := blk_frozen BK560.out 1; have hfz117_2 := blk_frozen BK560.out 2))
       (try simp only [Act.put, List.setIfInBounds_toArray, List.set_cons_zero, List.set_cons_succ])
       go_cut [15] (fun v15 wc => ∃ (kq : Nat) (x15_94 : Bool), v15 = .bool x15_94 ∧ Aside0 (salvorlaw18_PlanKeeps.j2 kq t554 t559 x15_94 t551 t552 t553 t556 t557 t558 = some r) ∧ Aside0 (kq ≤ kj29) ∧ Aside0 (Kd.R k33 33 wc w.heap.size (fun k_ => k_ ≠ gb555 ∧ k_ ≠ gb560) (.slice Ao47 t543.length co47) t543) ∧ Aside0 (wc.heap[gb530]? = some (.cells #[.int .i64 a0_0, .int .i64 a0_1, .bool a0_2] 23 (0, 0))) ∧ Aside0 (wc.heap[gb531]? = some (.cells #[.int .i64 a1_0, .int .i64 a1_1, .int .u8 a1_2, (.slice A1_3 l1_3.length c1_3)] 26 (0, 0))) ∧ Aside0 (wc.heap[gb539]? = some (.cells #[.int .i64 t536, .int .i64 t537, .int .i64 t538] 29 (0, 0))) ∧ Aside0 (wc.heap[gb546]? = some (.cells #[.int .i64 t540, .int .i64 t541, .int .u8 t542, (.slice Ao47 t543.length co47)] 26 (0, 0))) ∧ Aside0 (wc.heap[gb555]? = some (.cells #[.int .i64 t551, .int .i64 t552, .int .u8 t553] 33 (0, 0))) ∧ Aside0 (wc.heap[gb560]? = some (.cells #[.int .i64 t556, .int .i64 t557, .int .u8 t558] 33 (0, 0))) ∧ Aside0 (Below w.heap.size w wc))
       case first =>
        have H := HC95.out
        clear HC95
        by_cases c118 : t536 = 0
        ·rw [if_pos c118] at H
         have c118b0 : (t536 == 0) = true := beq_iff_eq.mpr c118
         have c118b1 : (t536 != 0) = false := bne_eq_false_iff_eq.mpr c118
         clear c118
         (first | rw [c118b0] | (simp only [i64_w, i32_w]; rw [c118b0]) | skip)
         have H' := Aside0.mk H
         clear H
         have hnb119 := NB539_530.out
         have hnc119 := NB530_539.out
         have hnb120 := NB539_531.out
         have hnc120 := NB531_539.out
         have hnb121 := NB539_546.out
         have hnc121 := NB546_539.out
         have hnb122 := NB539_555.out
         have hnc122 := NB555_539.out
         have hnb123 := NB539_560.out
         have hnc123 := NB560_539.out
         have hcz124_0 : w111.cell? ⟨gb539, 0, none⟩ = some (.int .i64 t536) := (blk_cell BK539.out 0).trans rfl
         have hcz124_1 : w111.cell? ⟨gb539, 1, none⟩ = some (.int .i64 t537) := (blk_cell BK539.out 1).trans rfl
         have hcz124_2 : w111.cell? ⟨gb539, 2, none⟩ = some (.int .i64 t538) := (blk_cell BK539.out 2).trans rfl
         have hfz124_0 := blk_frozen BK539.out 0
         have hfz124_1 := blk_frozen BK539.out 1
         have hfz124_2 := blk_frozen BK539.out 2
         go_wp2
         go_meet
         case rel => exact ⟨_, (false), (by first | rfl | (simp; done) | (simp [*]; done)), H', ⟨by have := HJ4.out; have := HJ29.out; first | omega | exact Nat.le_refl _⟩, ⟨by (with_reducible repeat (first | apply Kd.R_alloc | apply Kd.R_drewN | apply Kd.R_drew)); exact Kd.R_mono (Kd.R_far (p := ⟨gb560, 2, none⟩) (Kd.R_far (p := ⟨gb560, 1, none⟩) (Kd.R_far (p := ⟨gb560, 0, none⟩) (Kd.R_mono HO_547003.out (fun k_ hk => (⟨hk, hk.2⟩ : _ ∧ k_ ≠ gb560))) (fun _ hk => hk.2) (.int .i64 t556)) (fun _ hk => hk.2) (.int .i64 t557)) (fun _ hk => hk.2) (.int .u8 t558)) (fun _ hk => ⟨hk.1.1.2, hk.1.2⟩)⟩, ⟨by (with_reducible repeat (first | refine blk_drewN ?_ _ | refine blk_drew ?_ | refine blk_alloc ?_ _)); refine blk_far ?_ NB530_560.out _; (with_reducible repeat (first | refine blk_drewN ?_ _ | refine blk_drew ?_ | refine blk_alloc ?_ _)); refine blk_far ?_ NB530_560.out _; (with_reducible repeat (first | refine blk_drewN ?_ _ | refine blk_drew ?_ | refine blk_alloc ?_ _)); refine blk_far ?_ NB530_560.out _; (with_reducible repeat (first | refine blk_drewN ?_ _ | refine blk_drew ?_ | refine blk_alloc ?_ _)); exact BK530.out⟩, ⟨by (with_reducible repeat (first | refine blk_drewN ?_ _ | refine blk_drew ?_ | refine blk_alloc ?_ _)); refine blk_far ?_ NB531_560.out _; (with_reducible repeat (first | refine blk_drewN ?_ _ | refine blk_drew ?_ | refine blk_alloc ?_ _)); refine blk_far ?_ NB531_560.out _; (with_reducible repeat (first | refine blk_drewN ?_ _ | refine blk_drew ?_ | refine blk_alloc ?_ _)); refine blk_far ?_ NB531_560.out _; (with_reducible repeat (first | refine blk_drewN ?_ _ | refine blk_drew ?_ | refine blk_alloc ?_ _)); exact BK531.out⟩, ⟨by (with_reducible repeat (first | refine blk_drewN ?_ _ | refine blk_drew ?_ | refine blk_alloc ?_ _)); refine blk_far ?_ NB539_560.out _; (with_reducible repeat (first | refine blk_drewN ?_ _ | refine blk_drew ?_ | refine blk_alloc ?_ _)); refine blk_far ?_ NB539_560.out _; (with_reducible repeat (first | refine blk_drewN ?_ _ | refine blk_drew ?_ | refine blk_alloc ?_ _)); refine blk_far ?_ NB539_560.out _; (with_reducible repeat (first | refine blk_drewN ?_ _ | refine blk_drew ?_ | refine blk_alloc ?_ _)); exact BK539.out⟩, ⟨by (with_reducible repeat (first | refine blk_drewN ?_ _ | refine blk_drew ?_ | refine blk_alloc ?_ _)); refine blk_far ?_ NB546_560.out _; (with_reducible repeat (first | refine blk_drewN ?_ _ | refine blk_drew ?_ | refine blk_alloc ?_ _)); refine blk_far ?_ NB546_560.out _; (with_reducible repeat (first | refine blk_drewN ?_ _ | refine blk_drew ?_ | refine blk_alloc ?_ _)); refine blk_far ?_ NB546_560.out _; (with_reducible repeat (first | refine blk_drewN ?_ _ | refine blk_drew ?_ | refine blk_alloc ?_ _)); exact BK546.out⟩, ⟨by (with_reducible repeat (first | refine blk_drewN ?_ _ | refine blk_drew ?_ | refine blk_alloc ?_ _)); refine blk_far ?_ NB555_560.out _; (with_reducible repeat (first | refine blk_drewN ?_ _ | refine blk_drew ?_ | refine blk_alloc ?_ _)); refine blk_far ?_ NB555_560.out _; (with_reducible repeat (first | refine blk_drewN ?_ _ | refine blk_drew ?_ | refine blk_alloc ?_ _)); refine blk_far ?_ NB555_560.out _; (with_reducible repeat (first | refine blk_drewN ?_ _ | refine blk_drew ?_ | refine blk_alloc ?_ _)); exact BK555.out⟩, ⟨by (with_reducible repeat (first | refine blk_drewN ?_ _ | refine blk_drew ?_ | refine blk_alloc ?_ _)); refine blk_put (cs := #[.int .i64 t556, .int .i64 t557, .int .u8 0]) ?_ 2 _ rfl; (with_reducible repeat (first | refine blk_drewN ?_ _ | refine blk_drew ?_ | refine blk_alloc ?_ _)); refine blk_put (cs := #[.int .i64 t556, .int .i64 0, .int .u8 0]) ?_ 1 _ rfl; (with_reducible repeat (first | refine blk_drewN ?_ _ | refine blk_drew ?_ | refine blk_alloc ?_ _)); refine blk_put (cs := #[.int .i64 0, .int .i64 0, .int .u8 0]) ?_ 0 _ rfl; (with_reducible repeat (first | refine blk_drewN ?_ _ | refine blk_drew ?_ | refine blk_alloc ?_ _)); exact BK560.out⟩, ⟨by repeat (first | (with_reducible first | exact HB.out | apply below_alloc | apply pw_below_drewN | apply below_drew1 | refine below_set ?_ GE530.out | refine below_set ?_ GE531.out | refine below_set ?_ GE539.out | refine below_set ?_ GE546.out | refine below_set ?_ GE555.out | refine below_set ?_ GE560.out) | exact HB.out)⟩⟩
        ·rw [if_neg c118] at H
         have c118b0 : (t536 == 0) = false := beq_eq_false_iff_ne.mpr c118
         have c118b1 : (t536 != 0) = true := bne_iff_ne.mpr c118
         (first | rw [c118b0] | (simp only [i64_w, i32_w]; rw [c118b0]) | skip)
         by_cases c125 : a3 ≥ t537
         ·rw [if_pos c125] at H
          have c125b0 : decide (t537 ≤ a3) = true := decide_eq_true c125
          clear c125
          have H' := Aside0.mk H
          clear H
          have hnb126 := NB539_530.out
          have hnc126 := NB530_539.out
          have hnb127 := NB539_531.out
          have hnc127 := NB531_539.out
          have hnb128 := NB539_546.out
          have hnc128 := NB546_539.out
          have hnb129 := NB539_555.out
          have hnc129 := NB555_539.out
          have hnb130 := NB539_560.out
          have hnc130 := NB560_539.out
          have hcz131_0 : w111.cell? ⟨gb539, 0, none⟩ = some (.int .i64 t536) := (blk_cell BK539.out 0).trans rfl
          have hcz131_1 : w111.cell? ⟨gb539, 1, none⟩ = some (.int .i64 t537) := (blk_cell BK539.out 1).trans rfl
          have hcz131_2 : w111.cell? ⟨gb539, 2, none⟩ = some (.int .i64 t538) := (blk_cell BK539.out 2).trans rfl
          have hfz131_0 := blk_frozen BK539.out 0
          have hfz131_1 := blk_frozen BK539.out 1
          have hfz131_2 := blk_frozen BK539.out 2
          go_wp2
          go_meet
          case rel => exact ⟨_, (decide (a3 < (wrap64 (t537 + t538)))), (by first | rfl | (simp; done) | (simp [*]; done)), H', ⟨by have := HJ4.out; have := HJ29.out; first | omega | exact Nat.le_refl _⟩, ⟨by (with_reducible repeat (first | apply Kd.R_alloc | apply Kd.R_drewN | apply Kd.R_drew)); exact Kd.R_mono (Kd.R_far (p := ⟨gb560, 2, none⟩) (Kd.R_far (p := ⟨gb560, 1, none⟩) (Kd.R_far (p := ⟨gb560, 0, none⟩) (Kd.R_mono HO_547003.out (fun k_ hk => (⟨hk, hk.2⟩ : _ ∧ k_ ≠ gb560))) (fun _ hk => hk.2) (.int .i64 t556)) (fun _ hk => hk.2) (.int .i64 t557)) (fun _ hk => hk.2) (.int .u8 t558)) (fun _ hk => ⟨hk.1.1.2, hk.1.2⟩)⟩, ⟨by (with_reducible repeat (first | refine blk_drewN ?_ _ | refine blk_drew ?_ | refine blk_alloc ?_ _)); refine blk_far ?_ NB530_560.out _; (with_reducible repeat (first | refine blk_drewN ?_ _ | refine blk_drew ?_ | refine blk_alloc ?_ _)); refine blk_far ?_ NB530_560.out _; (with_reducible repeat (first | refine blk_drewN ?_ _ | refine blk_drew ?_ | refine blk_alloc ?_ _)); refine blk_far ?_ NB530_560.out _; (with_reducible repeat (first | refine blk_drewN ?_ _ | refine blk_drew ?_ | refine blk_alloc ?_ _)); exact BK530.out⟩, ⟨by (with_reducible repeat (first | refine blk_drewN ?_ _ | refine blk_drew ?_ | refine blk_alloc ?_ _)); refine blk_far ?_ NB531_560.out _; (with_reducible repeat (first | refine blk_drewN ?_ _ | refine blk_drew ?_ | refine blk_alloc ?_ _)); refine blk_far ?_ NB531_560.out _; (with_reducible repeat (first | refine blk_drewN ?_ _ | refine blk_drew ?_ | refine blk_alloc ?_ _)); refine blk_far ?_ NB531_560.out _; (with_reducible repeat (first | refine blk_drewN ?_ _ | refine blk_drew ?_ | refine blk_alloc ?_ _)); exact BK531.out⟩, ⟨by (with_reducible repeat (first | refine blk_drewN ?_ _ | refine blk_drew ?_ | refine blk_alloc ?_ _)); refine blk_far ?_ NB539_560.out _; (with_reducible repeat (first | refine blk_drewN ?_ _ | refine blk_drew ?_ | refine blk_alloc ?_ _)); refine blk_far ?_ NB539_560.out _; (with_reducible repeat (first | refine blk_drewN ?_ _ | refine blk_drew ?_ | refine blk_alloc ?_ _)); refine blk_far ?_ NB539_560.out _; (with_reducible repeat (first | refine blk_drewN ?_ _ | refine blk_drew ?_ | refine blk_alloc ?_ _)); exact BK539.out⟩, ⟨by (with_reducible repeat (first | refine blk_drewN ?_ _ | refine blk_drew ?_ | refine blk_alloc ?_ _)); refine blk_far ?_ NB546_560.out _; (with_reducible repeat (first | refine blk_drewN ?_ _ | refine blk_drew ?_ | refine blk_alloc ?_ _)); refine blk_far ?_ NB546_560.out _; (with_reducible repeat (first | refine blk_drewN ?_ _ | refine blk_drew ?_ | refine blk_alloc ?_ _)); refine blk_far ?_ NB546_560.out _; (with_reducible repeat (first | refine blk_drewN ?_ _ | refine blk_drew ?_ | refine blk_alloc ?_ _)); exact BK546.out⟩, ⟨by (with_reducible repeat (first | refine blk_drewN ?_ _ | refine blk_drew ?_ | refine blk_alloc ?_ _)); refine blk_far ?_ NB555_560.out _; (with_reducible repeat (first | refine blk_drewN ?_ _ | refine blk_drew ?_ | refine blk_alloc ?_ _)); refine blk_far ?_ NB555_560.out _; (with_reducible repeat (first | refine blk_drewN ?_ _ | refine blk_drew ?_ | refine blk_alloc ?_ _)); refine blk_far ?_ NB555_560.out _; (with_reducible repeat (first | refine blk_drewN ?_ _ | refine blk_drew ?_ | refine blk_alloc ?_ _)); exact BK555.out⟩, ⟨by (with_reducible repeat (first | refine blk_drewN ?_ _ | refine blk_drew ?_ | refine blk_alloc ?_ _)); refine blk_put (cs := #[.int .i64 t556, .int .i64 t557, .int .u8 0]) ?_ 2 _ rfl; (with_reducible repeat (first | refine blk_drewN ?_ _ | refine blk_drew ?_ | refine blk_alloc ?_ _)); refine blk_put (cs := #[.int .i64 t556, .int .i64 0, .int .u8 0]) ?_ 1 _ rfl; (with_reducible repeat (first | refine blk_drewN ?_ _ | refine blk_drew ?_ | refine blk_alloc ?_ _)); refine blk_put (cs := #[.int .i64 0, .int .i64 0, .int .u8 0]) ?_ 0 _ rfl; (with_reducible repeat (first | refine blk_drewN ?_ _ | refine blk_drew ?_ | refine blk_alloc ?_ _)); exact BK560.out⟩, ⟨by repeat (first | (with_reducible first | exact HB.out | apply below_alloc | apply pw_below_drewN | apply below_drew1 | refine below_set ?_ GE530.out | refine below_set ?_ GE531.out | refine below_set ?_ GE539.out | refine below_set ?_ GE546.out | refine below_set ?_ GE555.out | refine below_set ?_ GE560.out) | exact HB.out)⟩⟩
         ·rw [if_neg c125] at H
          have c125b0 : decide (t537 ≤ a3) = false := decide_eq_false c125
          clear c125
          have H' := Aside0.mk H
          clear H
          have hnb132 := NB539_530.out
          have hnc132 := NB530_539.out
          have hnb133 := NB539_531.out
          have hnc133 := NB531_539.out
          have hnb134 := NB539_546.out
          have hnc134 := NB546_539.out
          have hnb135 := NB539_555.out
          have hnc135 := NB555_539.out
          have hnb136 := NB539_560.out
          have hnc136 := NB560_539.out
          have hcz137_0 : w111.cell? ⟨gb539, 0, none⟩ = some (.int .i64 t536) := (blk_cell BK539.out 0).trans rfl
          have hcz137_1 : w111.cell? ⟨gb539, 1, none⟩ = some (.int .i64 t537) := (blk_cell BK539.out 1).trans rfl
          have hcz137_2 : w111.cell? ⟨gb539, 2, none⟩ = some (.int .i64 t538) := (blk_cell BK539.out 2).trans rfl
          have hfz137_0 := blk_frozen BK539.out 0
          have hfz137_1 := blk_frozen BK539.out 1
          have hfz137_2 := blk_frozen BK539.out 2
          go_wp2
          go_meet
          case rel => exact ⟨_, (false), (by first | rfl | (simp; done) | (simp [*]; done)), H', ⟨by have := HJ4.out; have := HJ29.out; first | omega | exact Nat.le_refl _⟩, ⟨by (with_reducible repeat (first | apply Kd.R_alloc | apply Kd.R_drewN | apply Kd.R_drew)); exact Kd.R_mono (Kd.R_far (p := ⟨gb560, 2, none⟩) (Kd.R_far (p := ⟨gb560, 1, none⟩) (Kd.R_far (p := ⟨gb560, 0, none⟩) (Kd.R_mono HO_547003.out (fun k_ hk => (⟨hk, hk.2⟩ : _ ∧ k_ ≠ gb560))) (fun _ hk => hk.2) (.int .i64 t556)) (fun _ hk => hk.2) (.int .i64 t557)) (fun _ hk => hk.2) (.int .u8 t558)) (fun _ hk => ⟨hk.1.1.2, hk.1.2⟩)⟩, ⟨by (with_reducible repeat (first | refine blk_drewN ?_ _ | refine blk_drew ?_ | refine blk_alloc ?_ _)); refine blk_far ?_ NB530_560.out _; (with_reducible repeat (first | refine blk_drewN ?_ _ | refine blk_drew ?_ | refine blk_alloc ?_ _)); refine blk_far ?_ NB530_560.out _; (with_reducible repeat (first | refine blk_drewN ?_ _ | refine blk_drew ?_ | refine blk_alloc ?_ _)); refine blk_far ?_ NB530_560.out _; (with_reducible repeat (first | refine blk_drewN ?_ _ | refine blk_drew ?_ | refine blk_alloc ?_ _)); exact BK530.out⟩, ⟨by (with_reducible repeat (first | refine blk_drewN ?_ _ | refine blk_drew ?_ | refine blk_alloc ?_ _)); refine blk_far ?_ NB531_560.out _; (with_reducible repeat (first | refine blk_drewN ?_ _ | refine blk_drew ?_ | refine blk_alloc ?_ _)); refine blk_far ?_ NB531_560.out _; (with_reducible repeat (first | refine blk_drewN ?_ _ | refine blk_drew ?_ | refine blk_alloc ?_ _)); refine blk_far ?_ NB531_560.out _; (with_reducible repeat (first | refine blk_drewN ?_ _ | refine blk_drew ?_ | refine blk_alloc ?_ _)); exact BK531.out⟩, ⟨by (with_reducible repeat (first | refine blk_drewN ?_ _ | refine blk_drew ?_ | refine blk_alloc ?_ _)); refine blk_far ?_ NB539_560.out _; (with_reducible repeat (first | refine blk_drewN ?_ _ | refine blk_drew ?_ | refine blk_alloc ?_ _)); refine blk_far ?_ NB539_560.out _; (with_reducible repeat (first | refine blk_drewN ?_ _ | refine blk_drew ?_ | refine blk_alloc ?_ _)); refine blk_far ?_ NB539_560.out _; (with_reducible repeat (first | refine blk_drewN ?_ _ | refine blk_drew ?_ | refine blk_alloc ?_ _)); exact BK539.out⟩, ⟨by (with_reducible repeat (first | refine blk_drewN ?_ _ | refine blk_drew ?_ | refine blk_alloc ?_ _)); refine blk_far ?_ NB546_560.out _; (with_reducible repeat (first | refine blk_drewN ?_ _ | refine blk_drew ?_ | refine blk_alloc ?_ _)); refine blk_far ?_ NB546_560.out _; (with_reducible repeat (first | refine blk_drewN ?_ _ | refine blk_drew ?_ | refine blk_alloc ?_ _)); refine blk_far ?_ NB546_560.out _; (with_reducible repeat (first | refine blk_drewN ?_ _ | refine blk_drew ?_ | refine blk_alloc ?_ _)); exact BK546.out⟩, ⟨by (with_reducible repeat (first | refine blk_drewN ?_ _ | refine blk_drew ?_ | refine blk_alloc ?_ _)); refine blk_far ?_ NB555_560.out _; (with_reducible repeat (first | refine blk_drewN ?_ _ | refine blk_drew ?_ | refine blk_alloc ?_ _)); refine blk_far ?_ NB555_560.out _; (with_reducible repeat (first | refine blk_drewN ?_ _ | refine blk_drew ?_ | refine blk_alloc ?_ _)); refine blk_far ?_ NB555_560.out _; (with_reducible repeat (first | refine blk_drewN ?_ _ | refine blk_drew ?_ | refine blk_alloc ?_ _)); exact BK555.out⟩, ⟨by (with_reducible repeat (first | refine blk_drewN ?_ _ | refine blk_drew ?_ | refine blk_alloc ?_ _)); refine blk_put (cs := #[.int .i64 t556, .int .i64 t557, .int .u8 0]) ?_ 2 _ rfl; (with_reducible repeat (first | refine blk_drewN ?_ _ | refine blk_drew ?_ | refine blk_alloc ?_ _)); refine blk_put (cs := #[.int .i64 t556, .int .i64 0, .int .u8 0]) ?_ 1 _ rfl; (with_reducible repeat (first | refine blk_drewN ?_ _ | refine blk_drew ?_ | refine blk_alloc ?_ _)); refine blk_put (cs := #[.int .i64 0, .int .i64 0, .int .u8 0]) ?_ 0 _ rfl; (with_reducible repeat (first | refine blk_drewN ?_ _ | refine blk_drew ?_ | refine blk_alloc ?_ _)); exact BK560.out⟩, ⟨by repeat (first | (with_reducible first | exact HB.out | apply below_alloc | apply pw_below_drewN | apply below_drew1 | refine below_set ?_ GE530.out | refine below_set ?_ GE531.out | refine below_set ?_ GE539.out | refine below_set ?_ GE546.out | refine below_set ?_ GE555.out | refine below_set ?_ GE560.out) | exact HB.out)⟩⟩
       case rest =>
        clear HC95
        try clear c1
        try clear c2
        try clear p2
        try clear c4
        try clear p6
        try clear c9
        try clear c10
        try clear c11
        try clear c12
        try clear c13
        try clear c18
        try clear c19
        try clear c20
        try clear c49
        try clear p64
        try clear c92
        try clear c96
        try clear c97
        try clear c98
        try clear c102
        try clear c103
        try clear c104
        try clear c105
        try clear c107
        try clear c108
        try clear c112
        try clear c113
        try clear c114
        try clear c115
        try clear c116
        try clear c118
        try clear c118b0
        try clear c118b1
        try clear c119
        try clear c120
        try clear c121
        try clear c122
        try clear c123
        try clear c125
        try clear c125b0
        try clear c126
        try clear c127
        try clear c128
        try clear c129
        try clear c130
        try clear c132
        try clear c133
        try clear c134
        try clear c135
        try clear c136
        try clear hcz106_0
        try clear hcz106_1
        try clear hcz106_2
        try clear hcz109_0
        try clear hcz109_1
        try clear hcz109_2
        try clear hcz109_3
        try clear hcz117_0
        try clear hcz117_1
        try clear hcz117_2
        try clear hcz124_0
        try clear hcz124_1
        try clear hcz124_2
        try clear hcz131_0
        try clear hcz131_1
        try clear hcz131_2
        try clear hcz137_0
        try clear hcz137_1
        try clear hcz137_2
        try clear hcz99_0
        try clear hcz99_1
        try clear hcz99_2
        try clear hcz99_3
        try clear hfz106_0
        try clear hfz106_1
        try clear hfz106_2
        try clear hfz109_0
        try clear hfz109_1
        try clear hfz109_2
        try clear hfz109_3
        try clear hfz117_0
        try clear hfz117_1
        try clear hfz117_2
        try clear hfz124_0
        try clear hfz124_1
        try clear hfz124_2
        try clear hfz131_0
        try clear hfz131_1
        try clear hfz131_2
        try clear hfz137_0
        try clear hfz137_1
        try clear hfz137_2
        try clear hfz99_0
        try clear hfz99_1
        try clear hfz99_2
        try clear hfz99_3
        try clear p2
        obtain ⟨kq, x15_94, rfl, HA, HJ94, HO_547003, BK530, BK531, BK539, BK546, BK555, BK560, HB⟩ := hcut
        cases kq with
        | zero => exact absurd HA.out (by simp [salvorlaw18_PlanKeeps.j2])
        | succ kj94 =>
         have H := HA.out
         clear HA
         simp only [salvorlaw18_PlanKeeps.j2] at H
         have HC138 := Aside0.mk H
         clear H
         go_upto_region 10 with (fail)
         go_cut [131] (fun v131 wc => ∃ (kq : Nat) (x131_137 : Bool), v131 = .bool x131_137 ∧ Aside0 (salvorlaw18_PlanKeeps.j3 kq t554 x15_94 x131_137 t551 t552 t553 t556 t557 t558 = some r) ∧ Aside0 (kq ≤ kj94) ∧ Aside0 (Kd.R k33 33 wc w.heap.size (fun k_ => k_ ≠ gb555 ∧ k_ ≠ gb560) (.slice Ao47 t543.length co47) t543) ∧ Aside0 (wc.heap[gb530]? = some (.cells #[.int .i64 a0_0, .int .i64 a0_1, .bool a0_2] 23 (0, 0))) ∧ Aside0 (wc.heap[gb531]? = some (.cells #[.int .i64 a1_0, .int .i64 a1_1, .int .u8 a1_2, (.slice A1_3 l1_3.length c1_3)] 26 (0, 0))) ∧ Aside0 (wc.heap[gb539]? = some (.cells #[.int .i64 t536, .int .i64 t537, .int .i64 t538] 29 (0, 0))) ∧ Aside0 (wc.heap[gb546]? = some (.cells #[.int .i64 t540, .int .i64 t541, .int .u8 t542, (.slice Ao47 t543.length co47)] 26 (0, 0))) ∧ Aside0 (wc.heap[gb555]? = some (.cells #[.int .i64 t551, .int .i64 t552, .int .u8 t553] 33 (0, 0))) ∧ Aside0 (wc.heap[gb560]? = some (.cells #[.int .i64 t556, .int .i64 t557, .int .u8 t558] 33 (0, 0))) ∧ Aside0 (Below w.heap.size w wc))
         case first =>
          have H := HC138.out
          clear HC138
          by_cases c139 : (t554 != t559) = true
          ·rw [if_pos c139] at H
           have c139b0 : (t554 != t559) = true := c139
           (try (have c139b1 : decide (t554 = t559) = false := by simpa using c139))
           (try (have c139b2 : (t554 == t559) = false := by simpa using c139))
           (try (have c139b3 : ¬ (t554 = t559) := by simpa using c139))
           clear c139
           (first | rw [c139b0] | (simp only [i64_w, i32_w]; rw [c139b0]) | skip)
           have H' := Aside0.mk H
           clear H
           go_wp2
           go_meet
           case rel => exact ⟨_, (true), (by first | rfl | (simp; done) | (simp [*]; done)), H', ⟨by have := HJ4.out; have := HJ29.out; have := HJ94.out; first | omega | exact Nat.le_refl _⟩, ⟨by (with_reducible repeat (first | apply Kd.R_alloc | apply Kd.R_drewN | apply Kd.R_drew)); exact HO_547003.out⟩, ⟨by (with_reducible repeat (first | refine blk_drewN ?_ _ | refine blk_drew ?_ | refine blk_alloc ?_ _)); exact BK530.out⟩, ⟨by (with_reducible repeat (first | refine blk_drewN ?_ _ | refine blk_drew ?_ | refine blk_alloc ?_ _)); exact BK531.out⟩, ⟨by (with_reducible repeat (first | refine blk_drewN ?_ _ | refine blk_drew ?_ | refine blk_alloc ?_ _)); exact BK539.out⟩, ⟨by (with_reducible repeat (first | refine blk_drewN ?_ _ | refine blk_drew ?_ | refine blk_alloc ?_ _)); exact BK546.out⟩, ⟨by (with_reducible repeat (first | refine blk_drewN ?_ _ | refine blk_drew ?_ | refine blk_alloc ?_ _)); exact BK555.out⟩, ⟨by (with_reducible repeat (first | refine blk_drewN ?_ _ | refine blk_drew ?_ | refine blk_alloc ?_ _)); exact BK560.out⟩, ⟨by repeat (first | (with_reducible first | exact HB.out | apply below_alloc | apply pw_below_drewN | apply below_drew1 | refine below_set ?_ GE530.out | refine below_set ?_ GE531.out | refine below_set ?_ GE539.out | refine below_set ?_ GE546.out | refine below_set ?_ GE555.out | refine below_set ?_ GE560.out) | exact HB.out)⟩⟩
          ·rw [if_neg c139] at H
           have c139b0 : (t554 != t559) = false := by simpa using c139
           (try (have c139b1 : decide (t554 = t559) = true := by simpa using c139))
           (try (have c139b2 : (t554 == t559) = true := by simpa using c139))
           clear c139
           (first | rw [c139b0] | (simp only [i64_w, i32_w]; rw [c139b0]) | skip)
           by_cases c140 : t554 = true
           ·subst c140
            have H1 : (if t553 = 43 then (if x15_94 = true then (salvorlaw18_PlanKeeps.j3 kj94 true x15_94 true t551 t552 t553 t556 t557 t558) else (salvorlaw18_PlanKeeps.j3 kj94 true x15_94 (t558 != 43) t551 t552 t553 t556 t557 t558)) else (salvorlaw18_PlanKeeps.j3 kj94 true x15_94 false t551 t552 t553 t556 t557 t558)) = some r := by rw [if_pos rfl] at H; exact H
            clear H
            have H := H1
            clear H1
            by_cases c141 : t553 = 43
            ·rw [if_pos c141] at H
             have c141b0 : (t553 == 43) = true := beq_iff_eq.mpr c141
             have c141b1 : (t553 != 43) = false := bne_eq_false_iff_eq.mpr c141
             clear c141
             by_cases c142 : x15_94 = true
             ·subst c142
              have H1 : (salvorlaw18_PlanKeeps.j3 kj94 true true true t551 t552 t553 t556 t557 t558) = some r := by rw [if_pos rfl] at H; exact H
              clear H
              have H := H1
              clear H1
              have H' := Aside0.mk H
              clear H
              have hnb143 := NB555_530.out
              have hnc143 := NB530_555.out
              have hnb144 := NB555_531.out
              have hnc144 := NB531_555.out
              have hnb145 := NB555_539.out
              have hnc145 := NB539_555.out
              have hnb146 := NB555_546.out
              have hnc146 := NB546_555.out
              have hnb147 := NB555_560.out
              have hnc147 := NB560_555.out
              have hcz148_0 : wc.cell? ⟨gb555, 0, none⟩ = some (.int .i64 t551) := (blk_cell BK555.out 0).trans rfl
              have hcz148_1 : wc.cell? ⟨gb555, 1, none⟩ = some (.int .i64 t552) := (blk_cell BK555.out 1).trans rfl
              have hcz148_2 : wc.cell? ⟨gb555, 2, none⟩ = some (.int .u8 t553) := (blk_cell BK555.out 2).trans rfl
              have hfz148_0 := blk_frozen BK555.out 0
              have hfz148_1 := blk_frozen BK555.out 1
              have hfz148_2 := blk_frozen BK555.out 2
              go_wp2
              go_meet
              case rel => exact ⟨_, (true), (by first | rfl | (simp; done) | (simp [*]; done)), H', ⟨by have := HJ4.out; have := HJ29.out; have := HJ94.out; first | omega | exact Nat.le_refl _⟩, ⟨by (with_reducible repeat (first | apply Kd.R_alloc | apply Kd.R_drewN | apply Kd.R_drew)); exact HO_547003.out⟩, ⟨by (with_reducible repeat (first | refine blk_drewN ?_ _ | refine blk_drew ?_ | refine blk_alloc ?_ _)); exact BK530.out⟩, ⟨by (with_reducible repeat (first | refine blk_drewN ?_ _ | refine blk_drew ?_ | refine blk_alloc ?_ _)); exact BK531.out⟩, ⟨by (with_reducible repeat (first | refine blk_drewN ?_ _ | refine blk_drew ?_ | refine blk_alloc ?_ _)); exact BK539.out⟩, ⟨by (with_reducible repeat (first | refine blk_drewN ?_ _ | refine blk_drew ?_ | refine blk_alloc ?_ _)); exact BK546.out⟩, ⟨by (with_reducible repeat (first | refine blk_drewN ?_ _ | refine blk_drew ?_ | refine blk_alloc ?_ _)); exact BK555.out⟩, ⟨by (with_reducible repeat (first | refine blk_drewN ?_ _ | refine blk_drew ?_ | refine blk_alloc ?_ _)); exact BK560.out⟩, ⟨by repeat (first | (with_reducible first | exact HB.out | apply below_alloc | apply pw_below_drewN | apply below_drew1 | refine below_set ?_ GE530.out | refine below_set ?_ GE531.out | refine below_set ?_ GE539.out | refine below_set ?_ GE546.out | refine below_set ?_ GE555.out | refine below_set ?_ GE560.out) | exact HB.out)⟩⟩
             ·replace c142 := Bool.eq_false_iff.mpr c142
              subst c142
              have H1 : (salvorlaw18_PlanKeeps.j3 kj94 true false (t558 != 43) t551 t552 t553 t556 t557 t558) = some r := by rw [if_neg (show ¬ (false = true) by decide)] at H; exact H
              clear H
              have H := H1
              clear H1
              have H' := Aside0.mk H
              clear H
              have hnb149 := NB555_530.out
              have hnc149 := NB530_555.out
              have hnb150 := NB555_531.out
              have hnc150 := NB531_555.out
              have hnb151 := NB555_539.out
              have hnc151 := NB539_555.out
              have hnb152 := NB555_546.out
              have hnc152 := NB546_555.out
              have hnb153 := NB555_560.out
              have hnc153 := NB560_555.out
              have hcz154_0 : wc.cell? ⟨gb555, 0, none⟩ = some (.int .i64 t551) := (blk_cell BK555.out 0).trans rfl
              have hcz154_1 : wc.cell? ⟨gb555, 1, none⟩ = some (.int .i64 t552) := (blk_cell BK555.out 1).trans rfl
              have hcz154_2 : wc.cell? ⟨gb555, 2, none⟩ = some (.int .u8 t553) := (blk_cell BK555.out 2).trans rfl
              have hfz154_0 := blk_frozen BK555.out 0
              have hfz154_1 := blk_frozen BK555.out 1
              have hfz154_2 := blk_frozen BK555.out 2
              have hnb155 := NB560_530.out
              have hnc155 := NB530_560.out
              have hnb156 := NB560_531.out
              have hnc156 := NB531_560.out
              have hnb157 := NB560_539.out
              have hnc157 := NB539_560.out
              have hnb158 := NB560_546.out
              have hnc158 := NB546_560.out
              have hcz159_0 : wc.cell? ⟨gb560, 0, none⟩ = some (.int .i64 t556) := (blk_cell BK560.out 0).trans rfl
              have hcz159_1 : wc.cell? ⟨gb560, 1, none⟩ = some (.int .i64 t557) := (blk_cell BK560.out 1).trans rfl
              have hcz159_2 : wc.cell? ⟨gb560, 2, none⟩ = some (.int .u8 t558) := (blk_cell BK560.out 2).trans rfl
              have hfz159_0 := blk_frozen BK560.out 0
              have hfz159_1 := blk_frozen BK560.out 1
              have hfz159_2 := blk_frozen BK560.out 2
              go_wp2
              go_meet
              case rel => exact ⟨_, ((t558 != 43)), (by first | rfl | (simp; done) | (simp [*]; done)), H', ⟨by have := HJ4.out; have := HJ29.out; have := HJ94.out; first | omega | exact Nat.le_refl _⟩, ⟨by (with_reducible repeat (first | apply Kd.R_alloc | apply Kd.R_drewN | apply Kd.R_drew)); exact HO_547003.out⟩, ⟨by (with_reducible repeat (first | refine blk_drewN ?_ _ | refine blk_drew ?_ | refine blk_alloc ?_ _)); exact BK530.out⟩, ⟨by (with_reducible repeat (first | refine blk_drewN ?_ _ | refine blk_drew ?_ | refine blk_alloc ?_ _)); exact BK531.out⟩, ⟨by (with_reducible repeat (first | refine blk_drewN ?_ _ | refine blk_drew ?_ | refine blk_alloc ?_ _)); exact BK539.out⟩, ⟨by (with_reducible repeat (first | refine blk_drewN ?_ _ | refine blk_drew ?_ | refine blk_alloc ?_ _)); exact BK546.out⟩, ⟨by (with_reducible repeat (first | refine blk_drewN ?_ _ | refine blk_drew ?_ | refine blk_alloc ?_ _)); exact BK555.out⟩, ⟨by (with_reducible repeat (first | refine blk_drewN ?_ _ | refine blk_drew ?_ | refine blk_alloc ?_ _)); exact BK560.out⟩, ⟨by repeat (first | (with_reducible first | exact HB.out | apply below_alloc | apply pw_below_drewN | apply below_drew1 | refine below_set ?_ GE530.out | refine below_set ?_ GE531.out | refine below_set ?_ GE539.out | refine below_set ?_ GE546.out | refine below_set ?_ GE555.out | refine below_set ?_ GE560.out) | exact HB.out)⟩⟩
            ·rw [if_neg c141] at H
             have c141b0 : (t553 == 43) = false := beq_eq_false_iff_ne.mpr c141
             have c141b1 : (t553 != 43) = true := bne_iff_ne.mpr c141
             have H' := Aside0.mk H
             clear H
             have hnb160 := NB555_530.out
             have hnc160 := NB530_555.out
             have hnb161 := NB555_531.out
             have hnc161 := NB531_555.out
             have hnb162 := NB555_539.out
             have hnc162 := NB539_555.out
             have hnb163 := NB555_546.out
             have hnc163 := NB546_555.out
             have hnb164 := NB555_560.out
             have hnc164 := NB560_555.out
             have hcz165_0 : wc.cell? ⟨gb555, 0, none⟩ = some (.int .i64 t551) := (blk_cell BK555.out 0).trans rfl
             have hcz165_1 : wc.cell? ⟨gb555, 1, none⟩ = some (.int .i64 t552) := (blk_cell BK555.out 1).trans rfl
             have hcz165_2 : wc.cell? ⟨gb555, 2, none⟩ = some (.int .u8 t553) := (blk_cell BK555.out 2).trans rfl
             have hfz165_0 := blk_frozen BK555.out 0
             have hfz165_1 := blk_frozen BK555.out 1
             have hfz165_2 := blk_frozen BK555.out 2
             go_wp2
             go_meet
             case rel => exact ⟨_, (false), (by first | rfl | (simp; done) | (simp [*]; done)), H', ⟨by have := HJ4.out; have := HJ29.out; have := HJ94.out; first | omega | exact Nat.le_refl _⟩, ⟨by (with_reducible repeat (first | apply Kd.R_alloc | apply Kd.R_drewN | apply Kd.R_drew)); exact HO_547003.out⟩, ⟨by (with_reducible repeat (first | refine blk_drewN ?_ _ | refine blk_drew ?_ | refine blk_alloc ?_ _)); exact BK530.out⟩, ⟨by (with_reducible repeat (first | refine blk_drewN ?_ _ | refine blk_drew ?_ | refine blk_alloc ?_ _)); exact BK531.out⟩, ⟨by (with_reducible repeat (first | refine blk_drewN ?_ _ | refine blk_drew ?_ | refine blk_alloc ?_ _)); exact BK539.out⟩, ⟨by (with_reducible repeat (first | refine blk_drewN ?_ _ | refine blk_drew ?_ | refine blk_alloc ?_ _)); exact BK546.out⟩, ⟨by (with_reducible repeat (first | refine blk_drewN ?_ _ | refine blk_drew ?_ | refine blk_alloc ?_ _)); exact BK555.out⟩, ⟨by (with_reducible repeat (first | refine blk_drewN ?_ _ | refine blk_drew ?_ | refine blk_alloc ?_ _)); exact BK560.out⟩, ⟨by repeat (first | (with_reducible first | exact HB.out | apply below_alloc | apply pw_below_drewN | apply below_drew1 | refine below_set ?_ GE530.out | refine below_set ?_ GE531.out | refine below_set ?_ GE539.out | refine below_set ?_ GE546.out | refine below_set ?_ GE555.out | refine below_set ?_ GE560.out) | exact HB.out)⟩⟩
           ·replace c140 := Bool.eq_false_iff.mpr c140
            subst c140
            have H1 : (salvorlaw18_PlanKeeps.j3 kj94 false x15_94 false t551 t552 t553 t556 t557 t558) = some r := by rw [if_neg (show ¬ (false = true) by decide)] at H; exact H
            clear H
            have H := H1
            clear H1
            have H' := Aside0.mk H
            clear H
            go_wp2
            go_meet
            case rel => exact ⟨_, (false), (by first | rfl | (simp; done) | (simp [*]; done)), H', ⟨by have := HJ4.out; have := HJ29.out; have := HJ94.out; first | omega | exact Nat.le_refl _⟩, ⟨by (with_reducible repeat (first | apply Kd.R_alloc | apply Kd.R_drewN | apply Kd.R_drew)); exact HO_547003.out⟩, ⟨by (with_reducible repeat (first | refine blk_drewN ?_ _ | refine blk_drew ?_ | refine blk_alloc ?_ _)); exact BK530.out⟩, ⟨by (with_reducible repeat (first | refine blk_drewN ?_ _ | refine blk_drew ?_ | refine blk_alloc ?_ _)); exact BK531.out⟩, ⟨by (with_reducible repeat (first | refine blk_drewN ?_ _ | refine blk_drew ?_ | refine blk_alloc ?_ _)); exact BK539.out⟩, ⟨by (with_reducible repeat (first | refine blk_drewN ?_ _ | refine blk_drew ?_ | refine blk_alloc ?_ _)); exact BK546.out⟩, ⟨by (with_reducible repeat (first | refine blk_drewN ?_ _ | refine blk_drew ?_ | refine blk_alloc ?_ _)); exact BK555.out⟩, ⟨by (with_reducible repeat (first | refine blk_drewN ?_ _ | refine blk_drew ?_ | refine blk_alloc ?_ _)); exact BK560.out⟩, ⟨by repeat (first | (with_reducible first | exact HB.out | apply below_alloc | apply pw_below_drewN | apply below_drew1 | refine below_set ?_ GE530.out | refine below_set ?_ GE531.out | refine below_set ?_ GE539.out | refine below_set ?_ GE546.out | refine below_set ?_ GE555.out | refine below_set ?_ GE560.out) | exact HB.out)⟩⟩
         case rest =>
          clear HC138
          try clear c1
          try clear c2
          try clear p2
          try clear c4
          try clear p6
          try clear c9
          try clear c10
          try clear c11
          try clear c12
          try clear c13
          try clear c14
          try clear c15
          try clear c16
          try clear c18
          try clear c19
          try clear c20
          try clear c49
          try clear p64
          try clear c92
          try clear c96
          try clear c97
          try clear c98
          try clear c102
          try clear c103
          try clear c104
          try clear c105
          try clear c107
          try clear c108
          try clear c112
          try clear c113
          try clear c114
          try clear c115
          try clear c116
          try clear c118
          try clear c118b0
          try clear c118b1
          try clear c119
          try clear c120
          try clear c121
          try clear c122
          try clear c123
          try clear c125
          try clear c125b0
          try clear c126
          try clear c127
          try clear c128
          try clear c129
          try clear c130
          try clear c132
          try clear c133
          try clear c134
          try clear c135
          try clear c136
          try clear c139
          try clear c139b0
          try clear c139b1
          try clear c139b2
          try clear c140
          try clear c141
          try clear c141b0
          try clear c141b1
          try clear c142
          try clear c143
          try clear c144
          try clear c145
          try clear c146
          try clear c147
          try clear c149
          try clear c150
          try clear c151
          try clear c152
          try clear c153
          try clear c155
          try clear c156
          try clear c157
          try clear c158
          try clear c160
          try clear c161
          try clear c162
          try clear c163
          try clear c164
          try clear hcz106_0
          try clear hcz106_1
          try clear hcz106_2
          try clear hcz109_0
          try clear hcz109_1
          try clear hcz109_2
          try clear hcz109_3
          try clear hcz117_0
          try clear hcz117_1
          try clear hcz117_2
          try clear hcz124_0
          try clear hcz124_1
          try clear hcz124_2
          try clear hcz131_0
          try clear hcz131_1
          try clear hcz131_2
          try clear hcz137_0
          try clear hcz137_1
          try clear hcz137_2
          try clear hcz148_0
          try clear hcz148_1
          try clear hcz148_2
          try clear hcz154_0
          try clear hcz154_1
          try clear hcz154_2
          try clear hcz159_0
          try clear hcz159_1
          try clear hcz159_2
          try clear hcz165_0
          try clear hcz165_1
          try clear hcz165_2
          try clear hcz99_0
          try clear hcz99_1
          try clear hcz99_2
          try clear hcz99_3
          try clear hfz106_0
          try clear hfz106_1
          try clear hfz106_2
          try clear hfz109_0
          try clear hfz109_1
          try clear hfz109_2
          try clear hfz109_3
          try clear hfz117_0
          try clear hfz117_1
          try clear hfz117_2
          try clear hfz124_0
          try clear hfz124_1
          try clear hfz124_2
          try clear hfz131_0
          try clear hfz131_1
          try clear hfz131_2
          try clear hfz137_0
          try clear hfz137_1
          try clear hfz137_2
          try clear hfz148_0
          try clear hfz148_1
          try clear hfz148_2
          try clear hfz154_0
          try clear hfz154_1
          try clear hfz154_2
          try clear hfz159_0
          try clear hfz159_1
          try clear hfz159_2
          try clear hfz165_0
          try clear hfz165_1
          try clear hfz165_2
          try clear hfz99_0
          try clear hfz99_1
          try clear hfz99_2
          try clear hfz99_3
          try clear p2
          try clear p6
          try clear p64
          obtain ⟨kq, x131_137, rfl, HA, HJ137, HO_547003, BK530, BK531, BK539, BK546, BK555, BK560, HB⟩ := hcut
          cases kq with
          | zero => exact absurd HA.out (by simp [salvorlaw18_PlanKeeps.j3])
          | succ kj137 =>
           have H := HA.out
           clear HA
           simp only [salvorlaw18_PlanKeeps.j3] at H
           by_cases c166 : x131_137 = true
           ·subst c166
            have H1 : (some false) = some r := by rw [if_pos rfl] at H; exact H
            clear H
            have H := H1
            clear H1
            exact absurd ((Option.some.inj H).trans HT.out) (by simp)
           ·replace c166 := Bool.eq_false_iff.mpr c166
            subst c166
            have H1 : (if t554 = true then (if x15_94 = true then ((salvorlaw18_PlanRuns.f kj137).bind fun t561 => (some t561)) else (if t558 = t553 then ((salvorlaw18_PlanRuns.f kj137).bind fun t562 => (some t562)) else (if t553 = 42 then (if t558 = 47 then ((salvorlaw18_PlanRuns.f kj137).bind fun t563 => (some t563)) else (some false)) else (some false)))) else ((salvorlaw18_PlanRuns.f kj137).bind fun t564 => (some t564))) = some r := by rw [if_neg (show ¬ (false = true) by decide)] at H; exact H
            clear H
            have H := H1
            clear H1
            by_cases c167 : t554 = true
            ·subst c167
             have H1 : (if x15_94 = true then ((salvorlaw18_PlanRuns.f kj137).bind fun t561 => (some t561)) else (if t558 = t553 then ((salvorlaw18_PlanRuns.f kj137).bind fun t562 => (some t562)) else (if t553 = 42 then (if t558 = 47 then ((salvorlaw18_PlanRuns.f kj137).bind fun t563 => (some t563)) else (some false)) else (some false)))) = some r := by rw [if_pos rfl] at H; exact H
             clear H
             have H := H1
             clear H1
             by_cases c168 : x15_94 = true
             ·subst c168
              have H1 : ((salvorlaw18_PlanRuns.f kj137).bind fun t561 => (some t561)) = some r := by rw [if_pos rfl] at H; exact H
              clear H
              have H := H1
              clear H1
              replace H := Option.bind_eq_some_iff.mp H
              obtain ⟨t561, A1690, H⟩ := H
              replace H : (some t561) = some r := H
              have A169 := Aside0.mk A1690
              clear A1690
              obtain rfl := Option.some.inj H
              go_wp2_with (first | (go_at_call 3; (with_reducible refine (salvorlaw18_PlanRuns.calls kj137  t561 _ A169.out).mono ?_); rintro e w170 ⟨rfl, hb⟩; have n0_ := Aside0.mk (Kd.R_below (by (with_reducible repeat (first | apply Kd.R_alloc | apply Kd.R_drewN | apply Kd.R_drew)); exact HO_547003.out) hb); have n1_ := bb_ BK530 hb; have n2_ := bb_ BK531 hb; have n3_ := bb_ BK539 hb; have n4_ := bb_ BK546 hb; have n5_ := bb_ BK555 hb; have n6_ := bb_ BK560 hb; have n7_ := bs_ HB hb; clear HO_547003; clear BK530; clear BK531; clear BK539; clear BK546; clear BK555; clear BK560; clear HB; have HO_547003 := n0_; have BK530 := n1_; have BK531 := n2_; have BK539 := n3_; have BK546 := n4_; have BK555 := n5_; have BK560 := n6_; have HB := n7_; clear n0_ n1_ n2_ n3_ n4_ n5_ n6_ n7_; (try clear hb); (try clear hb2); (try clear hk); (try clear hi)))
              go_ret
              exact ⟨by first | rfl | (simp [errW_none, errW_some] <;> rfl) | (simp [*, errW_none, errW_some] <;> rfl), bh_ HB⟩
             ·replace c168 := Bool.eq_false_iff.mpr c168
              subst c168
              have H1 : (if t558 = t553 then ((salvorlaw18_PlanRuns.f kj137).bind fun t562 => (some t562)) else (if t553 = 42 then (if t558 = 47 then ((salvorlaw18_PlanRuns.f kj137).bind fun t563 => (some t563)) else (some false)) else (some false))) = some r := by rw [if_neg (show ¬ (false = true) by decide)] at H; exact H
              clear H
              have H := H1
              clear H1
              by_cases c171 : t558 = t553
              ·rw [if_pos c171] at H
               have c171b0 : (t558 == t553) = true := beq_iff_eq.mpr c171
               have c171b1 : (t558 != t553) = false := bne_eq_false_iff_eq.mpr c171
               clear c171
               replace H := Option.bind_eq_some_iff.mp H
               obtain ⟨t562, A1720, H⟩ := H
               replace H : (some t562) = some r := H
               have A172 := Aside0.mk A1720
               clear A1720
               obtain rfl := Option.some.inj H
               have hnb173 := NB560_530.out
               have hnc173 := NB530_560.out
               have hnb174 := NB560_531.out
               have hnc174 := NB531_560.out
               have hnb175 := NB560_539.out
               have hnc175 := NB539_560.out
               have hnb176 := NB560_546.out
               have hnc176 := NB546_560.out
               have hnb177 := NB560_555.out
               have hnc177 := NB555_560.out
               have hcz178_0 : wc.cell? ⟨gb560, 0, none⟩ = some (.int .i64 t556) := (blk_cell BK560.out 0).trans rfl
               have hcz178_1 : wc.cell? ⟨gb560, 1, none⟩ = some (.int .i64 t557) := (blk_cell BK560.out 1).trans rfl
               have hcz178_2 : wc.cell? ⟨gb560, 2, none⟩ = some (.int .u8 t558) := (blk_cell BK560.out 2).trans rfl
               have hfz178_0 := blk_frozen BK560.out 0
               have hfz178_1 := blk_frozen BK560.out 1
               have hfz178_2 := blk_frozen BK560.out 2
               have hnb179 := NB555_530.out
               have hnc179 := NB530_555.out
               have hnb180 := NB555_531.out
               have hnc180 := NB531_555.out
               have hnb181 := NB555_539.out
               have hnc181 := NB539_555.out
               have hnb182 := NB555_546.out
               have hnc182 := NB546_555.out
               have hcz183_0 : wc.cell? ⟨gb555, 0, none⟩ = some (.int .i64 t551) := (blk_cell BK555.out 0).trans rfl
               have hcz183_1 : wc.cell? ⟨gb555, 1, none⟩ = some (.int .i64 t552) := (blk_cell BK555.out 1).trans rfl
               have hcz183_2 : wc.cell? ⟨gb555, 2, none⟩ = some (.int .u8 t553) := (blk_cell BK555.out 2).trans rfl
               have hfz183_0 := blk_frozen BK555.out 0
               have hfz183_1 := blk_frozen BK555.out 1
               have hfz183_2 := blk_frozen BK555.out 2
               go_wp2_with (first | (go_at_call 3; (with_reducible refine (salvorlaw18_PlanRuns.calls kj137  t562 _ A172.out).mono ?_); rintro e w184 ⟨rfl, hb⟩; have n0_ := Aside0.mk (Kd.R_below (by (with_reducible repeat (first | apply Kd.R_alloc | apply Kd.R_drewN | apply Kd.R_drew)); exact HO_547003.out) hb); have n1_ := bb_ BK530 hb; have n2_ := bb_ BK531 hb; have n3_ := bb_ BK539 hb; have n4_ := bb_ BK546 hb; have n5_ := bb_ BK555 hb; have n6_ := bb_ BK560 hb; have n7_ := bs_ HB hb; clear HO_547003; clear BK530; clear BK531; clear BK539; clear BK546; clear BK555; clear BK560; clear HB; have HO_547003 := n0_; have BK530 := n1_; have BK531 := n2_; have BK539 := n3_; have BK546 := n4_; have BK555 := n5_; have BK560 := n6_; have HB := n7_; clear n0_ n1_ n2_ n3_ n4_ n5_ n6_ n7_; (try clear hb); (try clear hb2); (try clear hk); (try clear hi)))
               go_ret
               exact ⟨by first | rfl | (simp [errW_none, errW_some] <;> rfl) | (simp [*, errW_none, errW_some] <;> rfl), bh_ HB⟩
              ·rw [if_neg c171] at H
               have c171b0 : (t558 == t553) = false := beq_eq_false_iff_ne.mpr c171
               have c171b1 : (t558 != t553) = true := bne_iff_ne.mpr c171
               by_cases c185 : t553 = 42
               ·rw [if_pos c185] at H
                have c185b0 : (t553 == 42) = true := beq_iff_eq.mpr c185
                have c185b1 : (t553 != 42) = false := bne_eq_false_iff_eq.mpr c185
                clear c185
                by_cases c186 : t558 = 47
                ·rw [if_pos c186] at H
                 have c186b0 : (t558 == 47) = true := beq_iff_eq.mpr c186
                 have c186b1 : (t558 != 47) = false := bne_eq_false_iff_eq.mpr c186
                 clear c186
                 replace H := Option.bind_eq_some_iff.mp H
                 obtain ⟨t563, A1870, H⟩ := H
                 replace H : (some t563) = some r := H
                 have A187 := Aside0.mk A1870
                 clear A1870
                 obtain rfl := Option.some.inj H
                 have hnb188 := NB560_530.out
                 have hnc188 := NB530_560.out
                 have hnb189 := NB560_531.out
                 have hnc189 := NB531_560.out
                 have hnb190 := NB560_539.out
                 have hnc190 := NB539_560.out
                 have hnb191 := NB560_546.out
                 have hnc191 := NB546_560.out
                 have hnb192 := NB560_555.out
                 have hnc192 := NB555_560.out
                 have hcz193_0 : wc.cell? ⟨gb560, 0, none⟩ = some (.int .i64 t556) := (blk_cell BK560.out 0).trans rfl
                 have hcz193_1 : wc.cell? ⟨gb560, 1, none⟩ = some (.int .i64 t557) := (blk_cell BK560.out 1).trans rfl
                 have hcz193_2 : wc.cell? ⟨gb560, 2, none⟩ = some (.int .u8 t558) := (blk_cell BK560.out 2).trans rfl
                 have hfz193_0 := blk_frozen BK560.out 0
                 have hfz193_1 := blk_frozen BK560.out 1
                 have hfz193_2 := blk_frozen BK560.out 2
                 have hnb194 := NB555_530.out
                 have hnc194 := NB530_555.out
                 have hnb195 := NB555_531.out
                 have hnc195 := NB531_555.out
                 have hnb196 := NB555_539.out
                 have hnc196 := NB539_555.out
                 have hnb197 := NB555_546.out
                 have hnc197 := NB546_555.out
                 have hcz198_0 : wc.cell? ⟨gb555, 0, none⟩ = some (.int .i64 t551) := (blk_cell BK555.out 0).trans rfl
                 have hcz198_1 : wc.cell? ⟨gb555, 1, none⟩ = some (.int .i64 t552) := (blk_cell BK555.out 1).trans rfl
                 have hcz198_2 : wc.cell? ⟨gb555, 2, none⟩ = some (.int .u8 t553) := (blk_cell BK555.out 2).trans rfl
                 have hfz198_0 := blk_frozen BK555.out 0
                 have hfz198_1 := blk_frozen BK555.out 1
                 have hfz198_2 := blk_frozen BK555.out 2
                 go_wp2_with (first | (go_at_call 3; (with_reducible refine (salvorlaw18_PlanRuns.calls kj137  t563 _ A187.out).mono ?_); rintro e w199 ⟨rfl, hb⟩; have n0_ := Aside0.mk (Kd.R_below (by (with_reducible repeat (first | apply Kd.R_alloc | apply Kd.R_drewN | apply Kd.R_drew)); exact HO_547003.out) hb); have n1_ := bb_ BK530 hb; have n2_ := bb_ BK531 hb; have n3_ := bb_ BK539 hb; have n4_ := bb_ BK546 hb; have n5_ := bb_ BK555 hb; have n6_ := bb_ BK560 hb; have n7_ := bs_ HB hb; clear HO_547003; clear BK530; clear BK531; clear BK539; clear BK546; clear BK555; clear BK560; clear HB; have HO_547003 := n0_; have BK530 := n1_; have BK531 := n2_; have BK539 := n3_; have BK546 := n4_; have BK555 := n5_; have BK560 := n6_; have HB := n7_; clear n0_ n1_ n2_ n3_ n4_ n5_ n6_ n7_; (try clear hb); (try clear hb2); (try clear hk); (try clear hi)))
                 go_ret
                 exact ⟨by first | rfl | (simp [errW_none, errW_some] <;> rfl) | (simp [*, errW_none, errW_some] <;> rfl), bh_ HB⟩
                ·rw [if_neg c186] at H
                 have c186b0 : (t558 == 47) = false := beq_eq_false_iff_ne.mpr c186
                 have c186b1 : (t558 != 47) = true := bne_iff_ne.mpr c186
                 exact absurd ((Option.some.inj H).trans HT.out) (by simp)
               ·rw [if_neg c185] at H
                have c185b0 : (t553 == 42) = false := beq_eq_false_iff_ne.mpr c185
                have c185b1 : (t553 != 42) = true := bne_iff_ne.mpr c185
                exact absurd ((Option.some.inj H).trans HT.out) (by simp)
            ·replace c167 := Bool.eq_false_iff.mpr c167
             subst c167
             have H1 : ((salvorlaw18_PlanRuns.f kj137).bind fun t564 => (some t564)) = some r := by rw [if_neg (show ¬ (false = true) by decide)] at H; exact H
             clear H
             have H := H1
             clear H1
             replace H := Option.bind_eq_some_iff.mp H
             obtain ⟨t564, A2000, H⟩ := H
             replace H : (some t564) = some r := H
             have A200 := Aside0.mk A2000
             clear A2000
             obtain rfl := Option.some.inj H
             go_wp2_with (first | (go_at_call 3; (with_reducible refine (salvorlaw18_PlanRuns.calls kj137  t564 _ A200.out).mono ?_); rintro e w201 ⟨rfl, hb⟩; have n0_ := Aside0.mk (Kd.R_below (by (with_reducible repeat (first | apply Kd.R_alloc | apply Kd.R_drewN | apply Kd.R_drew)); exact HO_547003.out) hb); have n1_ := bb_ BK530 hb; have n2_ := bb_ BK531 hb; have n3_ := bb_ BK539 hb; have n4_ := bb_ BK546 hb; have n5_ := bb_ BK555 hb; have n6_ := bb_ BK560 hb; have n7_ := bs_ HB hb; clear HO_547003; clear BK530; clear BK531; clear BK539; clear BK546; clear BK555; clear BK560; clear HB; have HO_547003 := n0_; have BK530 := n1_; have BK531 := n2_; have BK539 := n3_; have BK546 := n4_; have BK555 := n5_; have BK560 := n6_; have HB := n7_; clear n0_ n1_ n2_ n3_ n4_ n5_ n6_ n7_; (try clear hb); (try clear hb2); (try clear hk); (try clear hi)))
             go_ret
             exact ⟨by first | rfl | (simp [errW_none, errW_some] <;> rfl) | (simp [*, errW_none, errW_some] <;> rfl), bh_ HB⟩

end Go.Proofs.Ytnoilinjlelpaaa.P
