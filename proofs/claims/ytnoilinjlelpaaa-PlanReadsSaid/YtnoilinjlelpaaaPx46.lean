/- Laid by a program of this session's own (wip/wprint.py, over the kit's print.py): functions of the given program as plain Lean functions, and that the program's calls come to their answers. -/
import Derived.Test.YtnoilinjlelpaaaPx0
import Derived.Test.YtnoilinjlelpaaaPx3
import Derived.Test.YtnoilinjlelpaaaPx6
import Derived.Test.YtnoilinjlelpaaaPx12
import Derived.Test.YtnoilinjlelpaaaPx14
import Derived.Test.YtnoilinjlelpaaaPx18
import Derived.Test.YtnoilinjlelpaaaPx19
import Derived.Test.YtnoilinjlelpaaaPx20
import Derived.Test.YtnoilinjlelpaaaPx45
namespace Go.Proofs.Ytnoilinjlelpaaa.P
open Go.RowKit Go.Proofs.YtnoilinjlelpaaaW.PrintWords Go.Proofs.YtnoilinjlelpaaaW.PrintLast Go.Proofs.YtnoilinjlelpaaaW.PrintMore
attribute [local go_sem] max2_int min2_int max_two min_two max_three min_three max_four min_four   -- for this text's walks alone
set_option linter.unusedVariables false
set_option linter.unusedSimpArgs false

/-! ### salvorlaw18_PlanReads: function 8 -/
mutual
def salvorlaw18_PlanReads.j0 : Nat → Int → Int → Bool → Int → Int → Bool → Int → Int → Int → List (S33) → Option (Bool)
  | 0, _, _, _, _, _, _, _, _, _, _ => none
  | k + 1, x2, x3, x30, x707000, x707001, x707002, x708000, x708001, x708002, x708003 => if x30 = true then ((salvorlaw18_PlanRuns.f k).bind fun t711 => (some t711)) else ((plan_Next.f k x707000 x707001 x707002 x708000 x708001 x708002 x708003).bind fun bt712 => (if bt712.1 = 0 then ((plan_After.f k x707000 x707001 x707002 x708000 x708001 x708002 x708003 (wrap64 (x2))).bind fun bt716 => ((salvorref16_SameRegions.f k bt716.2.2.2 x708003).bind fun t722 => (if t722 = true then ((salvorlaw18_PlanRuns.f k).bind fun t723 => (some t723)) else (some false)))) else (if (wrap64 (bt712.2.2 + 1)) = 0 then (none) else ((plan_After.f k x707000 x707001 x707002 x708000 x708001 x708002 x708003 (Int.tmod (wrap64 (x2)) (wrap64 (bt712.2.2 + 1)))).bind fun bt724 => ((region_Count.f k bt724.2.2.2 (([43] : List Int))).bind fun t734 => ((region_Count.f k x708003 (([43] : List Int))).bind fun t738 => (if bt712.1 = 1 then (salvorlaw18_PlanReads.j1 k x3 (Int.tmod (wrap64 (x2)) (wrap64 (bt712.2.2 + 1))) (wrap64 (t734 - t738)) 0 true bt712.1 bt712.2.1 bt712.2.2 bt724.1 bt724.2.1 bt724.2.2.1 bt724.2.2.2) else (salvorlaw18_PlanReads.j1 k x3 (Int.tmod (wrap64 (x2)) (wrap64 (bt712.2.2 + 1))) (wrap64 (t734 - t738)) 0 ((Int.tmod (wrap64 (x2)) (wrap64 (bt712.2.2 + 1))) == bt712.2.2) bt712.1 bt712.2.1 bt712.2.2 bt724.1 bt724.2.1 bt724.2.2.1 bt724.2.2.2))))))))
def salvorlaw18_PlanReads.j1 : Nat → Int → Int → Int → Int → Bool → Int → Int → Int → Int → Int → Int → List (S33) → Option (Bool)
  | 0, _, _, _, _, _, _, _, _, _, _, _, _ => none
  | k + 1, x3, x10, x12, x13, x77, x716000, x716001, x716002, x731000, x731001, x731002, x731003 => if x77 = true then (salvorlaw18_PlanReads.j2 k x3 x10 x12 x10 x716000 x716001 x716002 x731000 x731001 x731002 x731003) else (salvorlaw18_PlanReads.j2 k x3 x10 x12 x13 x716000 x716001 x716002 x731000 x731001 x731002 x731003)
def salvorlaw18_PlanReads.j2 : Nat → Int → Int → Int → Int → Int → Int → Int → Int → Int → Int → List (S33) → Option (Bool)
  | 0, _, _, _, _, _, _, _, _, _, _, _ => none
  | k + 1, x3, x10, x12, x13, x716000, x716001, x716002, x731000, x731001, x731002, x731003 => (region_At.f k x731003 x3).bind fun bt739 => (if x3 ≥ x716001 then (if x12 = x13 then (if (x3 < (wrap64 (x716001 + x10))) then (if x716000 = 1 then (if bt739.2.2.2 = true then (if bt739.2.2.1 = 43 then ((salvorlaw18_PlanRuns.f k).bind fun t744 => (some t744)) else (some false)) else (some false)) else (if x10 < x716002 then ((salvorlaw18_PlanRuns.f k).bind fun t745 => (some t745)) else (if bt739.2.2.2 = true then (if bt739.2.2.1 = 43 then ((salvorlaw18_PlanRuns.f k).bind fun t746 => (some t746)) else (some false)) else (some false)))) else ((salvorlaw18_PlanRuns.f k).bind fun t747 => (some t747))) else (some false)) else (if x12 = x13 then ((salvorlaw18_PlanRuns.f k).bind fun t748 => (some t748)) else (some false)))
end
def salvorlaw18_PlanReads.f (k : Nat) (a0_0 : Int) (a0_1 : Int) (a0_2 : Bool) (a1_0 : Int) (a1_1 : Int) (a1_2 : Int) (l1_3 : List (S33)) (a2 : Int) (a3 : Int) : Option (Bool) := (salvorlaw16_Few.f l1_3).bind fun t708 => (if t708 = true then ((plan_May.f a0_0 a0_1 a0_2).bind fun t709 => (if t709 = true then ((maptext_May.f k a1_0 a1_1 a1_2 l1_3).bind fun t710 => (salvorlaw18_PlanReads.j0 k a2 a3 (!t710) a0_0 a0_1 a0_2 a1_0 a1_1 a1_2 l1_3)) else (salvorlaw18_PlanReads.j0 k a2 a3 true a0_0 a0_1 a0_2 a1_0 a1_1 a1_2 l1_3))) else (salvorlaw18_PlanReads.j0 k a2 a3 true a0_0 a0_1 a0_2 a1_0 a1_1 a1_2 l1_3))
theorem salvorlaw18_PlanReads.mono_l : ∀ k, (∀ y0 y1 y2 y3 y4 y5 y6 y7 y8 y9, LeO (salvorlaw18_PlanReads.j0 k y0 y1 y2 y3 y4 y5 y6 y7 y8 y9) (salvorlaw18_PlanReads.j0 (k + 1) y0 y1 y2 y3 y4 y5 y6 y7 y8 y9)) ∧ (∀ y0 y1 y2 y3 y4 y5 y6 y7 y8 y9 y10 y11, LeO (salvorlaw18_PlanReads.j1 k y0 y1 y2 y3 y4 y5 y6 y7 y8 y9 y10 y11) (salvorlaw18_PlanReads.j1 (k + 1) y0 y1 y2 y3 y4 y5 y6 y7 y8 y9 y10 y11)) ∧ (∀ y0 y1 y2 y3 y4 y5 y6 y7 y8 y9 y10, LeO (salvorlaw18_PlanReads.j2 k y0 y1 y2 y3 y4 y5 y6 y7 y8 y9 y10) (salvorlaw18_PlanReads.j2 (k + 1) y0 y1 y2 y3 y4 y5 y6 y7 y8 y9 y10))
  | 0 => ⟨fun _ _ _ _ _ _ _ _ _ _ r h => by simp [salvorlaw18_PlanReads.j0] at h, fun _ _ _ _ _ _ _ _ _ _ _ _ r h => by simp [salvorlaw18_PlanReads.j1] at h, fun _ _ _ _ _ _ _ _ _ _ _ r h => by simp [salvorlaw18_PlanReads.j2] at h⟩
  | k + 1 => by
    obtain ⟨ih0, ih1, ih2⟩ := salvorlaw18_PlanReads.mono_l k
    refine ⟨?_, ?_, ?_⟩
    · intro y0 y1 y2 y3 y4 y5 y6 y7 y8 y9
      unfold salvorlaw18_PlanReads.j0
      repeat' first
      | (with_reducible exact ih0 _ _ _ _ _ _ _ _ _ _)
      | (with_reducible exact ih1 _ _ _ _ _ _ _ _ _ _ _ _)
      | (with_reducible exact ih2 _ _ _ _ _ _ _ _ _ _ _)
      | (with_reducible exact maptext_May.mono _ _ _ _ _)
      | (with_reducible exact plan_After.mono _ _ _ _ _ _ _ _ _)
      | (with_reducible exact plan_Next.mono _ _ _ _ _ _ _ _)
      | (with_reducible exact region_At.mono _ _ _)
      | (with_reducible exact region_Count.mono _ _ _)
      | (with_reducible exact salvorlaw18_PlanRuns.mono _)
      | (with_reducible exact salvorref16_SameRegions.mono _ _ _)
      | (with_reducible exact LeO.refl _)
      | (with_reducible exact LeO.none _)
      | (with_reducible refine LeO.ite ?_ ?_)
      | (with_reducible refine LeO.bind ?_ (fun _ => ?_))
      | exact ih0 _ _ _ _ _ _ _ _ _ _
      | exact ih1 _ _ _ _ _ _ _ _ _ _ _ _
      | exact ih2 _ _ _ _ _ _ _ _ _ _ _
      | exact maptext_May.mono _ _ _ _ _
      | exact plan_After.mono _ _ _ _ _ _ _ _ _
      | exact plan_Next.mono _ _ _ _ _ _ _ _
      | exact region_At.mono _ _ _
      | exact region_Count.mono _ _ _
      | exact salvorlaw18_PlanRuns.mono _
      | exact salvorref16_SameRegions.mono _ _ _
      | exact LeO.none _
      | refine LeO.ite ?_ ?_
      | refine LeO.bind ?_ (fun _ => ?_)
    · intro y0 y1 y2 y3 y4 y5 y6 y7 y8 y9 y10 y11
      unfold salvorlaw18_PlanReads.j1
      repeat' first
      | (with_reducible exact ih0 _ _ _ _ _ _ _ _ _ _)
      | (with_reducible exact ih1 _ _ _ _ _ _ _ _ _ _ _ _)
      | (with_reducible exact ih2 _ _ _ _ _ _ _ _ _ _ _)
      | (with_reducible exact maptext_May.mono _ _ _ _ _)
      | (with_reducible exact plan_After.mono _ _ _ _ _ _ _ _ _)
      | (with_reducible exact plan_Next.mono _ _ _ _ _ _ _ _)
      | (with_reducible exact region_At.mono _ _ _)
      | (with_reducible exact region_Count.mono _ _ _)
      | (with_reducible exact salvorlaw18_PlanRuns.mono _)
      | (with_reducible exact salvorref16_SameRegions.mono _ _ _)
      | (with_reducible exact LeO.refl _)
      | (with_reducible exact LeO.none _)
      | (with_reducible refine LeO.ite ?_ ?_)
      | (with_reducible refine LeO.bind ?_ (fun _ => ?_))
      | exact ih0 _ _ _ _ _ _ _ _ _ _
      | exact ih1 _ _ _ _ _ _ _ _ _ _ _ _
      | exact ih2 _ _ _ _ _ _ _ _ _ _ _
      | exact maptext_May.mono _ _ _ _ _
      | exact plan_After.mono _ _ _ _ _ _ _ _ _
      | exact plan_Next.mono _ _ _ _ _ _ _ _
      | exact region_At.mono _ _ _
      | exact region_Count.mono _ _ _
      | exact salvorlaw18_PlanRuns.mono _
      | exact salvorref16_SameRegions.mono _ _ _
      | exact LeO.none _
      | refine LeO.ite ?_ ?_
      | refine LeO.bind ?_ (fun _ => ?_)
    · intro y0 y1 y2 y3 y4 y5 y6 y7 y8 y9 y10
      unfold salvorlaw18_PlanReads.j2
      repeat' first
      | (with_reducible exact ih0 _ _ _ _ _ _ _ _ _ _)
      | (with_reducible exact ih1 _ _ _ _ _ _ _ _ _ _ _ _)
      | (with_reducible exact ih2 _ _ _ _ _ _ _ _ _ _ _)
      | (with_reducible exact maptext_May.mono _ _ _ _ _)
      | (with_reducible exact plan_After.mono _ _ _ _ _ _ _ _ _)
      | (with_reducible exact plan_Next.mono _ _ _ _ _ _ _ _)
      | (with_reducible exact region_At.mono _ _ _)
      | (with_reducible exact region_Count.mono _ _ _)
      | (with_reducible exact salvorlaw18_PlanRuns.mono _)
      | (with_reducible exact salvorref16_SameRegions.mono _ _ _)
      | (with_reducible exact LeO.refl _)
      | (with_reducible exact LeO.none _)
      | (with_reducible refine LeO.ite ?_ ?_)
      | (with_reducible refine LeO.bind ?_ (fun _ => ?_))
      | exact ih0 _ _ _ _ _ _ _ _ _ _
      | exact ih1 _ _ _ _ _ _ _ _ _ _ _ _
      | exact ih2 _ _ _ _ _ _ _ _ _ _ _
      | exact maptext_May.mono _ _ _ _ _
      | exact plan_After.mono _ _ _ _ _ _ _ _ _
      | exact plan_Next.mono _ _ _ _ _ _ _ _
      | exact region_At.mono _ _ _
      | exact region_Count.mono _ _ _
      | exact salvorlaw18_PlanRuns.mono _
      | exact salvorref16_SameRegions.mono _ _ _
      | exact LeO.none _
      | refine LeO.ite ?_ ?_
      | refine LeO.bind ?_ (fun _ => ?_)
theorem salvorlaw18_PlanReads.mono : ∀ a0 a1 a2 a3 a4 a5 a6 a7 a8 k, LeO (salvorlaw18_PlanReads.f k a0 a1 a2 a3 a4 a5 a6 a7 a8) (salvorlaw18_PlanReads.f (k + 1) a0 a1 a2 a3 a4 a5 a6 a7 a8) := by
  intro a0 a1 a2 a3 a4 a5 a6 a7 a8 k
  obtain ⟨ih0, ih1, ih2⟩ := salvorlaw18_PlanReads.mono_l k
  unfold salvorlaw18_PlanReads.f
  repeat' first
      | (with_reducible exact ih0 _ _ _ _ _ _ _ _ _ _)
      | (with_reducible exact ih1 _ _ _ _ _ _ _ _ _ _ _ _)
      | (with_reducible exact ih2 _ _ _ _ _ _ _ _ _ _ _)
      | (with_reducible exact maptext_May.mono _ _ _ _ _)
      | (with_reducible exact plan_After.mono _ _ _ _ _ _ _ _ _)
      | (with_reducible exact plan_Next.mono _ _ _ _ _ _ _ _)
      | (with_reducible exact region_At.mono _ _ _)
      | (with_reducible exact region_Count.mono _ _ _)
      | (with_reducible exact salvorlaw18_PlanRuns.mono _)
      | (with_reducible exact salvorref16_SameRegions.mono _ _ _)
      | (with_reducible exact LeO.refl _)
      | (with_reducible exact LeO.none _)
      | (with_reducible refine LeO.ite ?_ ?_)
      | (with_reducible refine LeO.bind ?_ (fun _ => ?_))
      | exact ih0 _ _ _ _ _ _ _ _ _ _
      | exact ih1 _ _ _ _ _ _ _ _ _ _ _ _
      | exact ih2 _ _ _ _ _ _ _ _ _ _ _
      | exact maptext_May.mono _ _ _ _ _
      | exact plan_After.mono _ _ _ _ _ _ _ _ _
      | exact plan_Next.mono _ _ _ _ _ _ _ _
      | exact region_At.mono _ _ _
      | exact region_Count.mono _ _ _
      | exact salvorlaw18_PlanRuns.mono _
      | exact salvorref16_SameRegions.mono _ _ _
      | exact LeO.none _
      | refine LeO.ite ?_ ?_
      | refine LeO.bind ?_ (fun _ => ?_)
def salvorlaw18_PlanReads.T5 : Bool × List (List Nat × List Nat) := (true, [([], []), ([], []), ([], []), ([2], [2]), ([0, 1, 3], [0, 1, 3]), ([4], [4]), ([], []), ([6], [6]), ([5, 7, 4], [5, 7]), ([8, 8], [8]), ([9, 9], [9]), ([9, 10], [9, 10]), ([11, 10, 0, 1, 2, 3, 4, 5, 6, 7, 8, 9, 10, 11], [11])])
def salvorlaw18_PlanReads.B5 : List Nat := [0, 0, 0, 4, 15, 31, 0, 64, 255, 511, 1023, 2047, 4095]
theorem salvorlaw18_PlanReads.tab5 : rtab .any (opsOf Try.f8 5) = salvorlaw18_PlanReads.T5 := by kernel_rfl
theorem salvorlaw18_PlanReads.bits5 : waitsOk salvorlaw18_PlanReads.T5.2 salvorlaw18_PlanReads.B5 = true := by kernel_rfl
def salvorlaw18_PlanReads.T8 : Bool × List (List Nat × List Nat) := (true, [([], []), ([0], [0]), ([], []), ([1, 2], [1, 2]), ([], []), ([4], [4]), ([], []), ([5, 6, 3], [5, 6]), ([3, 7], [3, 7]), ([8, 7, 0, 1, 2, 3, 4, 5, 6, 7, 8], [8])])
def salvorlaw18_PlanReads.B8 : List Nat := [0, 1, 0, 7, 0, 16, 0, 127, 255, 511]
theorem salvorlaw18_PlanReads.tab8 : rtab .any (opsOf Try.f8 8) = salvorlaw18_PlanReads.T8 := by kernel_rfl
theorem salvorlaw18_PlanReads.bits8 : waitsOk salvorlaw18_PlanReads.T8.2 salvorlaw18_PlanReads.B8 = true := by kernel_rfl
theorem salvorlaw18_PlanReads.fd26_3 (x0_ : Int) (x1_ : Int) (x2_ : Int) (x3_ : Value) (w : World) : (Instr.field 26 (.agg #[.int .i64 x0_, .int .i64 x1_, .int .u8 x2_, x3_]) 3).run Try.prog w = .ok (x3_) w := by kernel_rfl
attribute [local go_sem] salvorlaw18_PlanReads.fd26_3
set_option maxHeartbeats 8000000 in
set_option maxRecDepth 100000 in
theorem salvorlaw18_PlanReads.calls (k : Nat) (a0_0 : Int) (a0_1 : Int) (a0_2 : Bool) (a1_0 : Int) (a1_1 : Int) (a1_2 : Int) (A1_3 : Option Addr) (c1_3 : Nat) (l1_3 : List (S33)) (a2 : Int) (a3 : Int) (r : Bool) (w : World) (hr1_3 : Kd.C k33 w A1_3 l1_3.length l1_3) (hc1_3 : l1_3.length ≤ c1_3) (h : salvorlaw18_PlanReads.f k a0_0 a0_1 a0_2 a1_0 a1_1 a1_2 l1_3 a2 a3 = some r) (hrt : r = true) :
    Calls Try.prog 8 #[.agg #[.int .i64 a0_0, .int .i64 a0_1, .bool a0_2], .agg #[.int .i64 a1_0, .int .i64 a1_1, .int .u8 a1_2, .slice A1_3 l1_3.length c1_3], .int .u16 a2, .int .i64 a3] w fun e w' => e = .returned (.bool r) ∧ Below w.heap.size w w' := by
  have HT := Aside0.mk hrt
  clear hrt
  have hu23 := Try.underlying23
  have hu26 := Try.underlying26
  have hu29 := Try.underlying29
  have hu33 := Try.underlying33
  have HR1_3 := Aside0.mk hr1_3
  have HC1_3 := Aside0.mk hc1_3
  clear hr1_3 hc1_3
  have HB := Aside0.mk (Below.refl w.heap.size w)
  have H : ((salvorlaw16_Few.f l1_3).bind fun t708 => (if t708 = true then ((plan_May.f a0_0 a0_1 a0_2).bind fun t709 => (if t709 = true then ((maptext_May.f k a1_0 a1_1 a1_2 l1_3).bind fun t710 => (salvorlaw18_PlanReads.j0 k a2 a3 (!t710) a0_0 a0_1 a0_2 a1_0 a1_1 a1_2 l1_3)) else (salvorlaw18_PlanReads.j0 k a2 a3 true a0_0 a0_1 a0_2 a1_0 a1_1 a1_2 l1_3))) else (salvorlaw18_PlanReads.j0 k a2 a3 true a0_0 a0_1 a0_2 a1_0 a1_1 a1_2 l1_3))) = some r := h
  clear h
  have HC5 := Aside0.mk H
  clear H
  go_enter Try.func8, Try.ntmps8
  go_upto_region 1 with (first | ((with_reducible refine gate_dst (N := 4) rfl ?_); refine box_e 4 #[.int .i64 a0_0, .int .i64 a0_1, .bool a0_2] 23 ?_; intro gb706 hg w6 hbox hb; have BK706 := Aside0.mk hbox; have GW706 := bg_ HB hg; have GE706 := bg_ HB hg; replace HB := bs_ HB hb; clear hb hbox hg) | ((with_reducible refine gate_dst (N := 5) rfl ?_); refine box_e 5 #[.int .i64 a1_0, .int .i64 a1_1, .int .u8 a1_2, .slice A1_3 l1_3.length c1_3] 26 ?_; intro gb707 hg w7 hbox hb; have BK707 := Aside0.mk hbox; have GW707 := bg_ HB hg; have GE707 := bg_ HB hg; have NB706_707 := bn_ BK706 hg; have NB707_706 := bm_ BK706 hg; replace BK706 := bb_ BK706 hb; replace HB := bs_ HB hb; clear hb hbox hg))
  (try simp only [Act.put, List.setIfInBounds_toArray, List.set_cons_zero, List.set_cons_succ])
  go_cut [30] (fun v30 wc => ∃ (kq : Nat) (x30_4 : Bool), v30 = .bool x30_4 ∧ Aside0 (salvorlaw18_PlanReads.j0 kq a2 a3 x30_4 a0_0 a0_1 a0_2 a1_0 a1_1 a1_2 l1_3 = some r) ∧ Aside0 (kq ≤ k) ∧ Aside0 (wc.heap[gb706]? = some (.cells #[.int .i64 a0_0, .int .i64 a0_1, .bool a0_2] 23 (0, 0))) ∧ Aside0 (wc.heap[gb707]? = some (.cells #[.int .i64 a1_0, .int .i64 a1_1, .int .u8 a1_2, (.slice A1_3 l1_3.length c1_3)] 26 (0, 0))) ∧ Aside0 (Below w.heap.size w wc))
  case first =>
    have H := HC5.out
    clear HC5
    replace H := Option.bind_eq_some_iff.mp H
    obtain ⟨t708, A80, H⟩ := H
    replace H : (if t708 = true then ((plan_May.f a0_0 a0_1 a0_2).bind fun t709 => (if t709 = true then ((maptext_May.f k a1_0 a1_1 a1_2 l1_3).bind fun t710 => (salvorlaw18_PlanReads.j0 k a2 a3 (!t710) a0_0 a0_1 a0_2 a1_0 a1_1 a1_2 l1_3)) else (salvorlaw18_PlanReads.j0 k a2 a3 true a0_0 a0_1 a0_2 a1_0 a1_1 a1_2 l1_3))) else (salvorlaw18_PlanReads.j0 k a2 a3 true a0_0 a0_1 a0_2 a1_0 a1_1 a1_2 l1_3)) = some r := H
    have A8 := Aside0.mk A80
    clear A80
    by_cases c9 : t708 = true
    · subst c9
      have H1 : ((plan_May.f a0_0 a0_1 a0_2).bind fun t709 => (if t709 = true then ((maptext_May.f k a1_0 a1_1 a1_2 l1_3).bind fun t710 => (salvorlaw18_PlanReads.j0 k a2 a3 (!t710) a0_0 a0_1 a0_2 a1_0 a1_1 a1_2 l1_3)) else (salvorlaw18_PlanReads.j0 k a2 a3 true a0_0 a0_1 a0_2 a1_0 a1_1 a1_2 l1_3))) = some r := by rw [if_pos rfl] at H; exact H
      clear H
      have H := H1
      clear H1
      replace H := Option.bind_eq_some_iff.mp H
      obtain ⟨t709, A100, H⟩ := H
      replace H : (if t709 = true then ((maptext_May.f k a1_0 a1_1 a1_2 l1_3).bind fun t710 => (salvorlaw18_PlanReads.j0 k a2 a3 (!t710) a0_0 a0_1 a0_2 a1_0 a1_1 a1_2 l1_3)) else (salvorlaw18_PlanReads.j0 k a2 a3 true a0_0 a0_1 a0_2 a1_0 a1_1 a1_2 l1_3)) = some r := H
      have A10 := Aside0.mk A100
      clear A100
      by_cases c11 : t709 = true
      · subst c11
        have H1 : ((maptext_May.f k a1_0 a1_1 a1_2 l1_3).bind fun t710 => (salvorlaw18_PlanReads.j0 k a2 a3 (!t710) a0_0 a0_1 a0_2 a1_0 a1_1 a1_2 l1_3)) = some r := by rw [if_pos rfl] at H; exact H
        clear H
        have H := H1
        clear H1
        replace H := Option.bind_eq_some_iff.mp H
        obtain ⟨t710, A120, H⟩ := H
        replace H : (salvorlaw18_PlanReads.j0 k a2 a3 (!t710) a0_0 a0_1 a0_2 a1_0 a1_1 a1_2 l1_3) = some r := H
        have A12 := Aside0.mk A120
        clear A120
        have H' := Aside0.mk H
        clear H
        have hnb13 := NB707_706.out
        have hnc13 := NB706_707.out
        have hcz14_0 : w7.cell? ⟨gb707, 0, none⟩ = some (.int .i64 a1_0) := (blk_cell BK707.out 0).trans rfl
        have hcz14_1 : w7.cell? ⟨gb707, 1, none⟩ = some (.int .i64 a1_1) := (blk_cell BK707.out 1).trans rfl
        have hcz14_2 : w7.cell? ⟨gb707, 2, none⟩ = some (.int .u8 a1_2) := (blk_cell BK707.out 2).trans rfl
        have hcz14_3 : w7.cell? ⟨gb707, 3, none⟩ = some (.slice A1_3 l1_3.length c1_3) := (blk_cell BK707.out 3).trans rfl
        have hfz14_0 := blk_frozen BK707.out 0
        have hfz14_1 := blk_frozen BK707.out 1
        have hfz14_2 := blk_frozen BK707.out 2
        have hfz14_3 := blk_frozen BK707.out 3
        go_wp2_with (first | ((with_reducible refine gate_callee (f := 15) rfl ?_); refine gl_ (some 19) rfl rfl Try.func15 (by kernel_rfl) rfl #[.slice A1_3 l1_3.length c1_3] rfl ?_; (with_reducible refine (salvorlaw16_Few.calls _ _ l1_3 true _ ?side1 ?side2 A8.out).mono ?_); (case side1 => exact cb_ HR1_3 HB); (case side2 => exact HC1_3.out); rintro e w' ⟨rfl, ⟨nd, rfl⟩⟩; refine ⟨_, rfl, ?_⟩; have hcz15_0 : w7.cell? ⟨gb706, 0, none⟩ = some (.int .i64 a0_0) := (blk_cell BK706.out 0).trans rfl; have hcz15_1 : w7.cell? ⟨gb706, 1, none⟩ = some (.int .i64 a0_1) := (blk_cell BK706.out 1).trans rfl; have hcz15_2 : w7.cell? ⟨gb706, 2, none⟩ = some (.bool a0_2) := (blk_cell BK706.out 2).trans rfl; have hfz15_0 := blk_frozen BK706.out 0; have hfz15_1 := blk_frozen BK706.out 1; have hfz15_2 := blk_frozen BK706.out 2) | (go_at_call 14; (with_reducible refine (plan_May.calls a0_0 a0_1 a0_2 true _ A10.out).mono ?_); rintro e w16 ⟨rfl, hb⟩; replace BK706 := bb_ BK706 hb; replace BK707 := bb_ BK707 hb; replace HB := bs_ HB hb; (try clear hb); (try clear hb2); (try clear hk); (try clear hi); have hcz17_0 : w16.cell? ⟨gb707, 0, none⟩ = some (.int .i64 a1_0) := (blk_cell BK707.out 0).trans rfl; have hcz17_1 : w16.cell? ⟨gb707, 1, none⟩ = some (.int .i64 a1_1) := (blk_cell BK707.out 1).trans rfl; have hcz17_2 : w16.cell? ⟨gb707, 2, none⟩ = some (.int .u8 a1_2) := (blk_cell BK707.out 2).trans rfl; have hcz17_3 : w16.cell? ⟨gb707, 3, none⟩ = some (.slice A1_3 l1_3.length c1_3) := (blk_cell BK707.out 3).trans rfl; have hfz17_0 := blk_frozen BK707.out 0; have hfz17_1 := blk_frozen BK707.out 1; have hfz17_2 := blk_frozen BK707.out 2; have hfz17_3 := blk_frozen BK707.out 3) | (go_at_call 18; (with_reducible refine (maptext_May.calls k a1_0 a1_1 a1_2 _ _ l1_3 t710 _ ?side1 ?side2 A12.out).mono ?_); (case side1 => exact cb_ HR1_3 HB); (case side2 => exact HC1_3.out); rintro e w18 ⟨rfl, hb⟩; replace BK706 := bb_ BK706 hb; replace BK707 := bb_ BK707 hb; replace HB := bs_ HB hb; (try clear hb); (try clear hb2); (try clear hk); (try clear hi)))
        go_meet
        case rel => exact ⟨_, (!t710), (by first | rfl | (simp; done) | (simp [*]; done)), H', ⟨by first | omega | exact Nat.le_refl _⟩, ⟨by (with_reducible repeat (first | refine blk_drewN ?_ _ | refine blk_drew ?_ | refine blk_alloc ?_ _)); exact BK706.out⟩, ⟨by (with_reducible repeat (first | refine blk_drewN ?_ _ | refine blk_drew ?_ | refine blk_alloc ?_ _)); exact BK707.out⟩, ⟨by repeat (first | (with_reducible first | exact HB.out | apply below_alloc | apply pw_below_drewN | apply below_drew1 | refine below_set ?_ GE706.out | refine below_set ?_ GE707.out) | exact HB.out)⟩⟩
      · replace c11 := Bool.eq_false_iff.mpr c11
        subst c11
        have H1 : (salvorlaw18_PlanReads.j0 k a2 a3 true a0_0 a0_1 a0_2 a1_0 a1_1 a1_2 l1_3) = some r := by rw [if_neg (show ¬ (false = true) by decide)] at H; exact H
        clear H
        have H := H1
        clear H1
        have H' := Aside0.mk H
        clear H
        have hnb19 := NB707_706.out
        have hnc19 := NB706_707.out
        have hcz20_0 : w7.cell? ⟨gb707, 0, none⟩ = some (.int .i64 a1_0) := (blk_cell BK707.out 0).trans rfl
        have hcz20_1 : w7.cell? ⟨gb707, 1, none⟩ = some (.int .i64 a1_1) := (blk_cell BK707.out 1).trans rfl
        have hcz20_2 : w7.cell? ⟨gb707, 2, none⟩ = some (.int .u8 a1_2) := (blk_cell BK707.out 2).trans rfl
        have hcz20_3 : w7.cell? ⟨gb707, 3, none⟩ = some (.slice A1_3 l1_3.length c1_3) := (blk_cell BK707.out 3).trans rfl
        have hfz20_0 := blk_frozen BK707.out 0
        have hfz20_1 := blk_frozen BK707.out 1
        have hfz20_2 := blk_frozen BK707.out 2
        have hfz20_3 := blk_frozen BK707.out 3
        go_wp2_with (first | ((with_reducible refine gate_callee (f := 15) rfl ?_); refine gl_ (some 19) rfl rfl Try.func15 (by kernel_rfl) rfl #[.slice A1_3 l1_3.length c1_3] rfl ?_; (with_reducible refine (salvorlaw16_Few.calls _ _ l1_3 true _ ?side1 ?side2 A8.out).mono ?_); (case side1 => exact cb_ HR1_3 HB); (case side2 => exact HC1_3.out); rintro e w' ⟨rfl, ⟨nd, rfl⟩⟩; refine ⟨_, rfl, ?_⟩; have hcz21_0 : w7.cell? ⟨gb706, 0, none⟩ = some (.int .i64 a0_0) := (blk_cell BK706.out 0).trans rfl; have hcz21_1 : w7.cell? ⟨gb706, 1, none⟩ = some (.int .i64 a0_1) := (blk_cell BK706.out 1).trans rfl; have hcz21_2 : w7.cell? ⟨gb706, 2, none⟩ = some (.bool a0_2) := (blk_cell BK706.out 2).trans rfl; have hfz21_0 := blk_frozen BK706.out 0; have hfz21_1 := blk_frozen BK706.out 1; have hfz21_2 := blk_frozen BK706.out 2) | (go_at_call 14; (with_reducible refine (plan_May.calls a0_0 a0_1 a0_2 false _ A10.out).mono ?_); rintro e w22 ⟨rfl, hb⟩; replace BK706 := bb_ BK706 hb; replace BK707 := bb_ BK707 hb; replace HB := bs_ HB hb; (try clear hb); (try clear hb2); (try clear hk); (try clear hi)))
        go_meet
        case rel => exact ⟨_, (true), (by first | rfl | (simp; done) | (simp [*]; done)), H', ⟨by first | omega | exact Nat.le_refl _⟩, ⟨by (with_reducible repeat (first | refine blk_drewN ?_ _ | refine blk_drew ?_ | refine blk_alloc ?_ _)); exact BK706.out⟩, ⟨by (with_reducible repeat (first | refine blk_drewN ?_ _ | refine blk_drew ?_ | refine blk_alloc ?_ _)); exact BK707.out⟩, ⟨by repeat (first | (with_reducible first | exact HB.out | apply below_alloc | apply pw_below_drewN | apply below_drew1 | refine below_set ?_ GE706.out | refine below_set ?_ GE707.out) | exact HB.out)⟩⟩
    · replace c9 := Bool.eq_false_iff.mpr c9
      subst c9
      have H1 : (salvorlaw18_PlanReads.j0 k a2 a3 true a0_0 a0_1 a0_2 a1_0 a1_1 a1_2 l1_3) = some r := by rw [if_neg (show ¬ (false = true) by decide)] at H; exact H
      clear H
      have H := H1
      clear H1
      have H' := Aside0.mk H
      clear H
      have hnb23 := NB707_706.out
      have hnc23 := NB706_707.out
      have hcz24_0 : w7.cell? ⟨gb707, 0, none⟩ = some (.int .i64 a1_0) := (blk_cell BK707.out 0).trans rfl
      have hcz24_1 : w7.cell? ⟨gb707, 1, none⟩ = some (.int .i64 a1_1) := (blk_cell BK707.out 1).trans rfl
      have hcz24_2 : w7.cell? ⟨gb707, 2, none⟩ = some (.int .u8 a1_2) := (blk_cell BK707.out 2).trans rfl
      have hcz24_3 : w7.cell? ⟨gb707, 3, none⟩ = some (.slice A1_3 l1_3.length c1_3) := (blk_cell BK707.out 3).trans rfl
      have hfz24_0 := blk_frozen BK707.out 0
      have hfz24_1 := blk_frozen BK707.out 1
      have hfz24_2 := blk_frozen BK707.out 2
      have hfz24_3 := blk_frozen BK707.out 3
      go_wp2_with (first | ((with_reducible refine gate_callee (f := 15) rfl ?_); refine gl_ (some 19) rfl rfl Try.func15 (by kernel_rfl) rfl #[.slice A1_3 l1_3.length c1_3] rfl ?_; (with_reducible refine (salvorlaw16_Few.calls _ _ l1_3 false _ ?side1 ?side2 A8.out).mono ?_); (case side1 => exact cb_ HR1_3 HB); (case side2 => exact HC1_3.out); rintro e w' ⟨rfl, ⟨nd, rfl⟩⟩; refine ⟨_, rfl, ?_⟩))
      go_meet
      case rel => exact ⟨_, (true), (by first | rfl | (simp; done) | (simp [*]; done)), H', ⟨by first | omega | exact Nat.le_refl _⟩, ⟨by (with_reducible repeat (first | refine blk_drewN ?_ _ | refine blk_drew ?_ | refine blk_alloc ?_ _)); exact BK706.out⟩, ⟨by (with_reducible repeat (first | refine blk_drewN ?_ _ | refine blk_drew ?_ | refine blk_alloc ?_ _)); exact BK707.out⟩, ⟨by repeat (first | (with_reducible first | exact HB.out | apply below_alloc | apply pw_below_drewN | apply below_drew1 | refine below_set ?_ GE706.out | refine below_set ?_ GE707.out) | exact HB.out)⟩⟩
  case rest =>
    clear HC5
    try clear c1
    try clear c2
    try clear p2
    try clear c8
    try clear c9
    try clear c11
    try clear c13
    try clear c15
    try clear c19
    try clear c23
    try clear hcz14_0
    try clear hcz14_1
    try clear hcz14_2
    try clear hcz14_3
    try clear hcz15_0
    try clear hcz15_1
    try clear hcz15_2
    try clear hcz17_0
    try clear hcz17_1
    try clear hcz17_2
    try clear hcz17_3
    try clear hcz20_0
    try clear hcz20_1
    try clear hcz20_2
    try clear hcz20_3
    try clear hcz21_0
    try clear hcz21_1
    try clear hcz21_2
    try clear hcz24_0
    try clear hcz24_1
    try clear hcz24_2
    try clear hcz24_3
    try clear hfz14_0
    try clear hfz14_1
    try clear hfz14_2
    try clear hfz14_3
    try clear hfz15_0
    try clear hfz15_1
    try clear hfz15_2
    try clear hfz17_0
    try clear hfz17_1
    try clear hfz17_2
    try clear hfz17_3
    try clear hfz20_0
    try clear hfz20_1
    try clear hfz20_2
    try clear hfz20_3
    try clear hfz21_0
    try clear hfz21_1
    try clear hfz21_2
    try clear hfz24_0
    try clear hfz24_1
    try clear hfz24_2
    try clear hfz24_3
    obtain ⟨kq, x30_4, rfl, HA, HJ4, BK706, BK707, HB⟩ := hcut
    cases kq with
    | zero => exact absurd HA.out (by simp [salvorlaw18_PlanReads.j0])
    | succ kj4 =>
      have H := HA.out
      clear HA
      simp only [salvorlaw18_PlanReads.j0] at H
      by_cases c25 : x30_4 = true
      · subst c25
        have H1 : ((salvorlaw18_PlanRuns.f kj4).bind fun t711 => (some t711)) = some r := by rw [if_pos rfl] at H; exact H
        clear H
        have H := H1
        clear H1
        replace H := Option.bind_eq_some_iff.mp H
        obtain ⟨t711, A260, H⟩ := H
        replace H : (some t711) = some r := H
        have A26 := Aside0.mk A260
        clear A260
        obtain rfl := Option.some.inj H
        go_wp2_with (first | ((with_reducible refine gate_callee (f := 3) rfl ?_); refine gl_ (some 31) rfl rfl Try.func3 (by kernel_rfl) rfl #[] rfl ?_; (with_reducible refine (salvorlaw18_PlanRuns.calls kj4  t711 _ A26.out).mono ?_); rintro e w27 ⟨rfl, hb⟩; refine ⟨_, rfl, ?_⟩; replace BK706 := bb_ BK706 hb; replace BK707 := bb_ BK707 hb; replace HB := bs_ HB hb; (try clear hb); (try clear hb2); (try clear hk); (try clear hi)))
        go_ret
        exact ⟨by first | rfl | (simp [errW_none, errW_some] <;> rfl) | (simp [*, errW_none, errW_some] <;> rfl), bh_ HB⟩
      · replace c25 := Bool.eq_false_iff.mpr c25
        subst c25
        have H1 : ((plan_Next.f kj4 a0_0 a0_1 a0_2 a1_0 a1_1 a1_2 l1_3).bind fun bt712 => (if bt712.1 = 0 then ((plan_After.f kj4 a0_0 a0_1 a0_2 a1_0 a1_1 a1_2 l1_3 (wrap64 (a2))).bind fun bt716 => ((salvorref16_SameRegions.f kj4 bt716.2.2.2 l1_3).bind fun t722 => (if t722 = true then ((salvorlaw18_PlanRuns.f kj4).bind fun t723 => (some t723)) else (some false)))) else (if (wrap64 (bt712.2.2 + 1)) = 0 then (none) else ((plan_After.f kj4 a0_0 a0_1 a0_2 a1_0 a1_1 a1_2 l1_3 (Int.tmod (wrap64 (a2)) (wrap64 (bt712.2.2 + 1)))).bind fun bt724 => ((region_Count.f kj4 bt724.2.2.2 (([43] : List Int))).bind fun t734 => ((region_Count.f kj4 l1_3 (([43] : List Int))).bind fun t738 => (if bt712.1 = 1 then (salvorlaw18_PlanReads.j1 kj4 a3 (Int.tmod (wrap64 (a2)) (wrap64 (bt712.2.2 + 1))) (wrap64 (t734 - t738)) 0 true bt712.1 bt712.2.1 bt712.2.2 bt724.1 bt724.2.1 bt724.2.2.1 bt724.2.2.2) else (salvorlaw18_PlanReads.j1 kj4 a3 (Int.tmod (wrap64 (a2)) (wrap64 (bt712.2.2 + 1))) (wrap64 (t734 - t738)) 0 ((Int.tmod (wrap64 (a2)) (wrap64 (bt712.2.2 + 1))) == bt712.2.2) bt712.1 bt712.2.1 bt712.2.2 bt724.1 bt724.2.1 bt724.2.2.1 bt724.2.2.2)))))))) = some r := by rw [if_neg (show ¬ (false = true) by decide)] at H; exact H
        clear H
        have H := H1
        clear H1
        replace H := Option.bind_eq_some_iff.mp H
        obtain ⟨⟨t712, t713, t714⟩, A280, H⟩ := H
        replace H : (if t712 = 0 then ((plan_After.f kj4 a0_0 a0_1 a0_2 a1_0 a1_1 a1_2 l1_3 (wrap64 (a2))).bind fun bt716 => ((salvorref16_SameRegions.f kj4 bt716.2.2.2 l1_3).bind fun t722 => (if t722 = true then ((salvorlaw18_PlanRuns.f kj4).bind fun t723 => (some t723)) else (some false)))) else (if (wrap64 (t714 + 1)) = 0 then (none) else ((plan_After.f kj4 a0_0 a0_1 a0_2 a1_0 a1_1 a1_2 l1_3 (Int.tmod (wrap64 (a2)) (wrap64 (t714 + 1)))).bind fun bt724 => ((region_Count.f kj4 bt724.2.2.2 (([43] : List Int))).bind fun t734 => ((region_Count.f kj4 l1_3 (([43] : List Int))).bind fun t738 => (if t712 = 1 then (salvorlaw18_PlanReads.j1 kj4 a3 (Int.tmod (wrap64 (a2)) (wrap64 (t714 + 1))) (wrap64 (t734 - t738)) 0 true t712 t713 t714 bt724.1 bt724.2.1 bt724.2.2.1 bt724.2.2.2) else (salvorlaw18_PlanReads.j1 kj4 a3 (Int.tmod (wrap64 (a2)) (wrap64 (t714 + 1))) (wrap64 (t734 - t738)) 0 ((Int.tmod (wrap64 (a2)) (wrap64 (t714 + 1))) == t714) t712 t713 t714 bt724.1 bt724.2.1 bt724.2.2.1 bt724.2.2.2))))))) = some r := H
        have A28 := Aside0.mk A280
        clear A280
        by_cases c29 : t712 = 0
        · rw [if_pos c29] at H
          have c29b0 : (t712 == 0) = true := beq_iff_eq.mpr c29
          have c29b1 : (t712 != 0) = false := bne_eq_false_iff_eq.mpr c29
          clear c29
          replace H := Option.bind_eq_some_iff.mp H
          obtain ⟨⟨t716, t717, t718, t719⟩, A300, H⟩ := H
          replace H : ((salvorref16_SameRegions.f kj4 t719 l1_3).bind fun t722 => (if t722 = true then ((salvorlaw18_PlanRuns.f kj4).bind fun t723 => (some t723)) else (some false))) = some r := H
          have A30 := Aside0.mk A300
          clear A300
          replace H := Option.bind_eq_some_iff.mp H
          obtain ⟨t722, A310, H⟩ := H
          replace H : (if t722 = true then ((salvorlaw18_PlanRuns.f kj4).bind fun t723 => (some t723)) else (some false)) = some r := H
          have A31 := Aside0.mk A310
          clear A310
          by_cases c32 : t722 = true
          · subst c32
            have H1 : ((salvorlaw18_PlanRuns.f kj4).bind fun t723 => (some t723)) = some r := by rw [if_pos rfl] at H; exact H
            clear H
            have H := H1
            clear H1
            replace H := Option.bind_eq_some_iff.mp H
            obtain ⟨t723, A330, H⟩ := H
            replace H : (some t723) = some r := H
            have A33 := Aside0.mk A330
            clear A330
            obtain rfl := Option.some.inj H
            have hnb34 := NB706_707.out
            have hnc34 := NB707_706.out
            have hcz35_0 : wc.cell? ⟨gb706, 0, none⟩ = some (.int .i64 a0_0) := (blk_cell BK706.out 0).trans rfl
            have hcz35_1 : wc.cell? ⟨gb706, 1, none⟩ = some (.int .i64 a0_1) := (blk_cell BK706.out 1).trans rfl
            have hcz35_2 : wc.cell? ⟨gb706, 2, none⟩ = some (.bool a0_2) := (blk_cell BK706.out 2).trans rfl
            have hfz35_0 := blk_frozen BK706.out 0
            have hfz35_1 := blk_frozen BK706.out 1
            have hfz35_2 := blk_frozen BK706.out 2
            have hcz36_0 : wc.cell? ⟨gb707, 0, none⟩ = some (.int .i64 a1_0) := (blk_cell BK707.out 0).trans rfl
            have hcz36_1 : wc.cell? ⟨gb707, 1, none⟩ = some (.int .i64 a1_1) := (blk_cell BK707.out 1).trans rfl
            have hcz36_2 : wc.cell? ⟨gb707, 2, none⟩ = some (.int .u8 a1_2) := (blk_cell BK707.out 2).trans rfl
            have hcz36_3 : wc.cell? ⟨gb707, 3, none⟩ = some (.slice A1_3 l1_3.length c1_3) := (blk_cell BK707.out 3).trans rfl
            have hfz36_0 := blk_frozen BK707.out 0
            have hfz36_1 := blk_frozen BK707.out 1
            have hfz36_2 := blk_frozen BK707.out 2
            have hfz36_3 := blk_frozen BK707.out 3
            try go_wp2_with (first | ((with_reducible refine gate_callee (f := 12) rfl ?_); refine gl_ (some 34) rfl rfl Try.func12 (by kernel_rfl) rfl #[.agg #[.int .i64 a0_0, .int .i64 a0_1, .bool a0_2], .agg #[.int .i64 a1_0, .int .i64 a1_1, .int .u8 a1_2, .slice A1_3 l1_3.length c1_3]] rfl ?_; (with_reducible refine (plan_Next.calls kj4 a0_0 a0_1 a0_2 a1_0 a1_1 a1_2 _ _ l1_3 t712 t713 t714 _ ?side1 ?side2 A28.out).mono ?_); (case side1 => exact cb_ HR1_3 HB); (case side2 => exact HC1_3.out); rintro e w37 ⟨rfl, hb⟩; refine ⟨_, rfl, ?_⟩; replace BK706 := bb_ BK706 hb; replace BK707 := bb_ BK707 hb; replace HB := bs_ HB hb; (try clear hb); (try clear hb2); (try clear hk); (try clear hi)) | ((with_reducible refine gate_dst (N := 9) rfl ?_); refine box_e 9 #[.int .i64 0, .int .i64 0, .int .i64 0] 29 ?_; intro gb715 hg w38 hbox hb; have BK715 := Aside0.mk hbox; have GW715 := bg_ HB hg; have GE715 := bg_ HB hg; have NB706_715 := bn_ BK706 hg; have NB715_706 := bm_ BK706 hg; have NB707_715 := bn_ BK707 hg; have NB715_707 := bm_ BK707 hg; replace BK706 := bb_ BK706 hb; replace BK707 := bb_ BK707 hb; replace HB := bs_ HB hb; clear hb hbox hg; have hnb39 := NB715_706.out; have hnc39 := NB706_715.out; have hnb40 := NB715_707.out; have hnc40 := NB707_715.out; have hcz41_0 : w38.cell? ⟨gb715, 0, none⟩ = some (.int .i64 0) := (blk_cell BK715.out 0).trans rfl; have hcz41_1 : w38.cell? ⟨gb715, 1, none⟩ = some (.int .i64 0) := (blk_cell BK715.out 1).trans rfl; have hcz41_2 : w38.cell? ⟨gb715, 2, none⟩ = some (.int .i64 0) := (blk_cell BK715.out 2).trans rfl; have hfz41_0 := blk_frozen BK715.out 0; have hfz41_1 := blk_frozen BK715.out 1; have hfz41_2 := blk_frozen BK715.out 2))
            have n0_ : Aside0 ((((w38.setCell ⟨gb715, 0, none⟩ (.int .i64 t712)).setCell ⟨gb715, 1, none⟩ (.int .i64 t713)).setCell ⟨gb715, 2, none⟩ (.int .i64 t714)).heap[gb706]? = some (.cells #[.int .i64 a0_0, .int .i64 a0_1, .bool a0_2] 23 (0, 0))) := ⟨by (with_reducible repeat (first | refine blk_drewN ?_ _ | refine blk_drew ?_ | refine blk_alloc ?_ _)); refine blk_far ?_ NB706_715.out _; (with_reducible repeat (first | refine blk_drewN ?_ _ | refine blk_drew ?_ | refine blk_alloc ?_ _)); refine blk_far ?_ NB706_715.out _; (with_reducible repeat (first | refine blk_drewN ?_ _ | refine blk_drew ?_ | refine blk_alloc ?_ _)); refine blk_far ?_ NB706_715.out _; (with_reducible repeat (first | refine blk_drewN ?_ _ | refine blk_drew ?_ | refine blk_alloc ?_ _)); exact BK706.out⟩
            have n1_ : Aside0 ((((w38.setCell ⟨gb715, 0, none⟩ (.int .i64 t712)).setCell ⟨gb715, 1, none⟩ (.int .i64 t713)).setCell ⟨gb715, 2, none⟩ (.int .i64 t714)).heap[gb707]? = some (.cells #[.int .i64 a1_0, .int .i64 a1_1, .int .u8 a1_2, .slice A1_3 l1_3.length c1_3] 26 (0, 0))) := ⟨by (with_reducible repeat (first | refine blk_drewN ?_ _ | refine blk_drew ?_ | refine blk_alloc ?_ _)); refine blk_far ?_ NB707_715.out _; (with_reducible repeat (first | refine blk_drewN ?_ _ | refine blk_drew ?_ | refine blk_alloc ?_ _)); refine blk_far ?_ NB707_715.out _; (with_reducible repeat (first | refine blk_drewN ?_ _ | refine blk_drew ?_ | refine blk_alloc ?_ _)); refine blk_far ?_ NB707_715.out _; (with_reducible repeat (first | refine blk_drewN ?_ _ | refine blk_drew ?_ | refine blk_alloc ?_ _)); exact BK707.out⟩
            have n2_ : Aside0 ((((w38.setCell ⟨gb715, 0, none⟩ (.int .i64 t712)).setCell ⟨gb715, 1, none⟩ (.int .i64 t713)).setCell ⟨gb715, 2, none⟩ (.int .i64 t714)).heap[gb715]? = some (.cells #[.int .i64 t712, .int .i64 t713, .int .i64 t714] 29 (0, 0))) := ⟨by (with_reducible repeat (first | refine blk_drewN ?_ _ | refine blk_drew ?_ | refine blk_alloc ?_ _)); refine blk_put (cs := #[.int .i64 t712, .int .i64 t713, .int .i64 0]) ?_ 2 _ rfl; (with_reducible repeat (first | refine blk_drewN ?_ _ | refine blk_drew ?_ | refine blk_alloc ?_ _)); refine blk_put (cs := #[.int .i64 t712, .int .i64 0, .int .i64 0]) ?_ 1 _ rfl; (with_reducible repeat (first | refine blk_drewN ?_ _ | refine blk_drew ?_ | refine blk_alloc ?_ _)); refine blk_put (cs := #[.int .i64 0, .int .i64 0, .int .i64 0]) ?_ 0 _ rfl; (with_reducible repeat (first | refine blk_drewN ?_ _ | refine blk_drew ?_ | refine blk_alloc ?_ _)); exact BK715.out⟩
            have n3_ : Aside0 (Below w.heap.size w (((w38.setCell ⟨gb715, 0, none⟩ (.int .i64 t712)).setCell ⟨gb715, 1, none⟩ (.int .i64 t713)).setCell ⟨gb715, 2, none⟩ (.int .i64 t714))) := ⟨by repeat (first | (with_reducible first | exact HB.out | apply below_alloc | apply pw_below_drewN | apply below_drew1 | refine below_set ?_ GE706.out | refine below_set ?_ GE707.out | refine below_set ?_ GE715.out) | exact HB.out)⟩
            (try clear BK706)
            (try clear BK707)
            (try clear BK715)
            (try clear HB)
            generalize (((w38.setCell ⟨gb715, 0, none⟩ (.int .i64 t712)).setCell ⟨gb715, 1, none⟩ (.int .i64 t713)).setCell ⟨gb715, 2, none⟩ (.int .i64 t714)) = w42 at n0_ n1_ n2_ n3_ ⊢
            have BK706 := n0_
            have BK707 := n1_
            have BK715 := n2_
            have HB := n3_
            clear n0_ n1_ n2_ n3_
            replace BK706 := Aside0.mk (blk_drew BK706.out)
            replace BK707 := Aside0.mk (blk_drew BK707.out)
            replace BK715 := Aside0.mk (blk_drew BK715.out)
            replace HB := Aside0.mk (below_drew1 HB.out)
            refine start_ (n := 13) (S := fun w' => w'.cell? ⟨gb706, 0, none⟩ = some (.int .i64 a0_0) ∧ w'.cell? ⟨gb706, 1, none⟩ = some (.int .i64 a0_1) ∧ w'.cell? ⟨gb706, 2, none⟩ = some (.bool a0_2) ∧ w'.cell? ⟨gb707, 0, none⟩ = some (.int .i64 a1_0) ∧ w'.cell? ⟨gb707, 1, none⟩ = some (.int .i64 a1_1) ∧ w'.cell? ⟨gb707, 2, none⟩ = some (.int .u8 a1_2) ∧ w'.cell? ⟨gb707, 3, none⟩ = some (.slice A1_3 l1_3.length c1_3)) (ds := []) #[false, false, false, false, false, false, false, false, false, false, false, false, false] (by kernel_rfl) rfl rfl ⟨(blk_cell BK706.out 0).trans rfl, (blk_cell BK706.out 1).trans rfl, (blk_cell BK706.out 2).trans rfl, (blk_cell BK707.out 0).trans rfl, (blk_cell BK707.out 1).trans rfl, (blk_cell BK707.out 2).trans rfl, (blk_cell BK707.out 3).trans rfl⟩ (fun hHeld => ?_); refine with_tabW salvorlaw18_PlanReads.tab5 salvorlaw18_PlanReads.bits5 (fun HT_ HW_ => ?_)
            generalize w42.drew = w43 at BK706 BK707 BK715 HB hHeld ⊢
            refine pu_ 2 40 (lb_ 13 4) rfl rfl (any_of HT_.out (by kernel_rfl)) ?_
            refine pu_ 3 41 (lb_ 13 12) rfl rfl (any_of HT_.out (by kernel_rfl)) ?_
            refine pu_ 6 44 (lb_ 13 76) rfl rfl (any_of HT_.out (by kernel_rfl)) ?_
            refine take_ (i := 0) (N := some 38) (v := ?_) (a' := ?_) #[true, false, true, true, false, false, true, false, false, false, false, false, false] rfl rfl (take_ofW HT_.out HW_.out (by kernel_rfl)) (fun _ _ _ h => h) (Or.inl ⟨by rfl, ?_⟩) hHeld ?_ ?_
            rotate_left
            · rintro w' ⟨s0, s1, s2, s3, s4, s5, s6⟩
              go_simp
              with_reducible rfl
            rotate_left
            · simp only [Act.put, List.setIfInBounds_toArray, List.set_cons_zero, List.set_cons_succ, i64_w, i32_w]
              rfl
            refine take_ (i := 1) (N := some 39) (v := ?_) (a' := ?_) #[true, true, true, true, false, false, true, false, false, false, false, false, false] rfl rfl (take_ofW HT_.out HW_.out (by kernel_rfl)) (fun _ _ _ h => h) (Or.inl ⟨by rfl, ?_⟩) hHeld ?_ ?_
            rotate_left
            · rintro w' ⟨s0, s1, s2, s3, s4, s5, s6⟩
              go_simp
              with_reducible rfl
            rotate_left
            · simp only [Act.put, List.setIfInBounds_toArray, List.set_cons_zero, List.set_cons_succ, i64_w, i32_w]
              rfl
            refine take_ (i := 7) (N := some 45) (v := ?_) (a' := ?_) #[true, true, true, true, false, false, true, true, false, false, false, false, false] rfl rfl (take_ofW HT_.out HW_.out (by kernel_rfl)) (fun _ _ _ h => h) (Or.inl ⟨by rfl, ?_⟩) hHeld ?_ ?_
            rotate_left
            · rintro w' ⟨s0, s1, s2, s3, s4, s5, s6⟩
              go_simp
              with_reducible rfl
            rotate_left
            · simp only [Act.put, List.setIfInBounds_toArray, List.set_cons_zero, List.set_cons_succ, i64_w, i32_w]
              rfl
            refine one_ (i := 4) (N := some 42) #[true, true, true, true, true, false, true, true, false, false, false, false, false] rfl rfl (one_of HT_.out (by kernel_rfl)) (by decide) (fun K hK => ?_)
            refine gq_ Try.func13 (by kernel_rfl) rfl #[.agg #[.int .i64 a0_0, .int .i64 a0_1, .bool a0_2], .agg #[.int .i64 a1_0, .int .i64 a1_1, .int .u8 a1_2, .slice A1_3 l1_3.length c1_3], .int .i64 (wrap64 (a2))] (by rfl) rfl rfl ?_
            with_reducible refine (plan_After.calls kj4 a0_0 a0_1 a0_2 a1_0 a1_1 a1_2 _ _ l1_3 (wrap64 (a2)) t716 t717 t718 t719 _ ?side1 ?side2 A30.out).mono ?_
            (case side1 => exact cb_ HR1_3 HB)
            (case side2 => exact HC1_3.out)
            rintro e w44 ⟨v720, rfl, ho0, hb⟩
            refine ⟨_, rfl, ?_⟩
            have HO721 := Aside0.mk (Kd.R_lower ho0 (below_size (bh_ HB)))
            replace BK706 := bb_ BK706 hb
            replace BK707 := bb_ BK707 hb
            replace BK715 := bb_ BK715 hb
            replace HB := bs_ HB hb
            (try clear hb)
            (try clear hb2)
            (try clear hk)
            (try clear hi)
            (try clear ho0)
            obtain ⟨Ao45, co45, eo45⟩ := Kd.R_slice HO721.out
            (first | subst eo45 | (injection eo45 with f1_ f2_ f3_; have f4_ := f1_.symm; have f5_ := f3_.symm; clear f1_ f2_ f3_; subst f4_; subst f5_))
            refine hK.out _ _ ⟨(blk_cell BK706.out 0).trans rfl, (blk_cell BK706.out 1).trans rfl, (blk_cell BK706.out 2).trans rfl, (blk_cell BK707.out 0).trans rfl, (blk_cell BK707.out 1).trans rfl, (blk_cell BK707.out 2).trans rfl, (blk_cell BK707.out 3).trans rfl⟩ (fun hHeld => ?_)
            clear hK K
            refine norm_ (a' := ?_) ?_ ?_
            rotate_left
            · show Act.put _ (some 42) _ = _
              simp only [Act.put, List.setIfInBounds_toArray, List.set_cons_zero, List.set_cons_succ, i64_w, i32_w]
              rfl
            refine pu_ 5 43 (lb_ 13 255) rfl rfl (any_of HT_.out (by kernel_rfl)) ?_
            refine one_ (i := 8) (N := some 46) #[true, true, true, true, true, true, true, true, true, false, false, false, false] rfl rfl (one_of HT_.out (by kernel_rfl)) (by decide) (fun K hK => ?_)
            refine gq_ Try.func30 (by kernel_rfl) rfl #[.slice Ao45 t719.length co45, .slice A1_3 l1_3.length c1_3] (by rfl) rfl rfl ?_
            with_reducible refine (salvorref16_SameRegions.calls kj4 _ _ t719 _ _ l1_3 true _ ?side1 ?side2 ?side3 ?side4 A31.out).mono ?_
            (case side1 => repeat (first | exact (Kd.R_reads' HO721.out).2.2 | (with_reducible refine Kd.C_alloc ?_ _) | (with_reducible refine Kd.C_drewN ?_ _) | (with_reducible refine Kd.C_drew ?_)))
            (case side2 => exact (Kd.R_reads' HO721.out).2.1)
            (case side3 => exact cb_ HR1_3 HB)
            (case side4 => exact HC1_3.out)
            rintro e w' ⟨rfl, ⟨nd, rfl⟩⟩
            refine ⟨_, rfl, ?_⟩
            refine hK.out _ _ ⟨(blk_cell BK706.out 0).trans rfl, (blk_cell BK706.out 1).trans rfl, (blk_cell BK706.out 2).trans rfl, (blk_cell BK707.out 0).trans rfl, (blk_cell BK707.out 1).trans rfl, (blk_cell BK707.out 2).trans rfl, (blk_cell BK707.out 3).trans rfl⟩ (fun hHeld => ?_)
            clear hK K
            refine norm_ (a' := ?_) ?_ ?_
            rotate_left
            · show Act.put _ (some 46) _ = _
              simp only [Act.put, List.setIfInBounds_toArray, List.set_cons_zero, List.set_cons_succ, i64_w, i32_w]
              rfl
            refine pu_ 9 47 (lb_ 13 1023) rfl rfl (any_of HT_.out (by kernel_rfl)) ?_
            refine one_ (i := 10) (N := some 48) #[true, true, true, true, true, true, true, true, true, true, true, false, false] rfl rfl (one_of HT_.out (by kernel_rfl)) (by decide) (fun K hK => ?_)
            refine gq_ Try.func3 (by kernel_rfl) rfl #[] (by rfl) rfl rfl ?_
            with_reducible refine (salvorlaw18_PlanRuns.calls kj4  t723 _ A33.out).mono ?_
            rintro e w46 ⟨rfl, hb⟩
            refine ⟨_, rfl, ?_⟩
            have n0_ := Aside0.mk (Kd.R_below (by (with_reducible repeat (first | apply Kd.R_alloc | apply Kd.R_drewN | apply Kd.R_drew)); exact HO721.out) hb)
            have n1_ := bb_ BK706 hb
            have n2_ := bb_ BK707 hb
            have n3_ := bb_ BK715 hb
            have n4_ := bs_ HB hb
            clear HO721
            clear BK706
            clear BK707
            clear BK715
            clear HB
            have HO721 := n0_
            have BK706 := n1_
            have BK707 := n2_
            have BK715 := n3_
            have HB := n4_
            clear n0_ n1_ n2_ n3_ n4_
            (try clear hb)
            (try clear hb2)
            (try clear hk)
            (try clear hi)
            refine hK.out _ _ ⟨(blk_cell BK706.out 0).trans rfl, (blk_cell BK706.out 1).trans rfl, (blk_cell BK706.out 2).trans rfl, (blk_cell BK707.out 0).trans rfl, (blk_cell BK707.out 1).trans rfl, (blk_cell BK707.out 2).trans rfl, (blk_cell BK707.out 3).trans rfl⟩ (fun hHeld => ?_)
            clear hK K
            refine norm_ (a' := ?_) ?_ ?_
            rotate_left
            · show Act.put _ (some 48) _ = _
              simp only [Act.put, List.setIfInBounds_toArray, List.set_cons_zero, List.set_cons_succ, i64_w, i32_w]
              rfl
            refine pu_ 11 49 (lb_ 13 4095) rfl rfl (any_of HT_.out (by kernel_rfl)) ?_
            refine pu_ 12 8 (lb_ 13 8191) rfl rfl (any_of HT_.out (by kernel_rfl)) ?_
            refine done_ (done_of HT_.out (by kernel_rfl)) ?_
            try go_wp2
            go_ret
            exact ⟨by first | rfl | (simp [errW_none, errW_some] <;> rfl) | (simp [*, errW_none, errW_some] <;> rfl), bh_ HB⟩
          · replace c32 := Bool.eq_false_iff.mpr c32
            subst c32
            have H1 : (some false) = some r := by rw [if_neg (show ¬ (false = true) by decide)] at H; exact H
            clear H
            have H := H1
            clear H1
            exact absurd ((Option.some.inj H).trans HT.out) (by simp)
        · rw [if_neg c29] at H
          have c29b0 : (t712 == 0) = false := beq_eq_false_iff_ne.mpr c29
          have c29b1 : (t712 != 0) = true := bne_iff_ne.mpr c29
          by_cases c47 : (wrap64 (t714 + 1)) = 0
          · rw [if_pos c47] at H
            exact absurd H (by simp)
          · rw [if_neg c47] at H
            have c47b0 : ((wrap64 (t714 + 1)) == 0) = false := beq_eq_false_iff_ne.mpr c47
            have c47b1 : ((wrap64 (t714 + 1)) != 0) = true := bne_iff_ne.mpr c47
            replace H := Option.bind_eq_some_iff.mp H
            obtain ⟨⟨t724, t725, t726, t727⟩, A480, H⟩ := H
            replace H : ((region_Count.f kj4 t727 (([43] : List Int))).bind fun t734 => ((region_Count.f kj4 l1_3 (([43] : List Int))).bind fun t738 => (if t712 = 1 then (salvorlaw18_PlanReads.j1 kj4 a3 (Int.tmod (wrap64 (a2)) (wrap64 (t714 + 1))) (wrap64 (t734 - t738)) 0 true t712 t713 t714 t724 t725 t726 t727) else (salvorlaw18_PlanReads.j1 kj4 a3 (Int.tmod (wrap64 (a2)) (wrap64 (t714 + 1))) (wrap64 (t734 - t738)) 0 ((Int.tmod (wrap64 (a2)) (wrap64 (t714 + 1))) == t714) t712 t713 t714 t724 t725 t726 t727)))) = some r := H
            have A48 := Aside0.mk A480
            clear A480
            obtain ⟨y731, hy731⟩ : ∃ y_ : List Int, y_ = (([43] : List Int)) := ⟨_, rfl⟩
            replace H : ((region_Count.f kj4 t727 y731).bind fun t734 => ((region_Count.f kj4 l1_3 (([43] : List Int))).bind fun t738 => (if t712 = 1 then (salvorlaw18_PlanReads.j1 kj4 a3 (Int.tmod (wrap64 (a2)) (wrap64 (t714 + 1))) (wrap64 (t734 - t738)) 0 true t712 t713 t714 t724 t725 t726 t727) else (salvorlaw18_PlanReads.j1 kj4 a3 (Int.tmod (wrap64 (a2)) (wrap64 (t714 + 1))) (wrap64 (t734 - t738)) 0 ((Int.tmod (wrap64 (a2)) (wrap64 (t714 + 1))) == t714) t712 t713 t714 t724 t725 t726 t727)))) = some r := by first | (rw [hy731]; with_reducible exact H) | (have H2_ := (Option.bind_some _ _).symm.trans H; rw [hy731]; with_reducible exact H2_) | (have H2_ := (Option.bind_some _ _).symm.trans H; with_reducible exact H2_) | with_reducible exact H | (rw [hy731]; exact H) | exact H
            have Ny731 := Aside0.mk hy731
            clear hy731
            replace H := Option.bind_eq_some_iff.mp H
            obtain ⟨t734, A490, H⟩ := H
            replace H : ((region_Count.f kj4 l1_3 (([43] : List Int))).bind fun t738 => (if t712 = 1 then (salvorlaw18_PlanReads.j1 kj4 a3 (Int.tmod (wrap64 (a2)) (wrap64 (t714 + 1))) (wrap64 (t734 - t738)) 0 true t712 t713 t714 t724 t725 t726 t727) else (salvorlaw18_PlanReads.j1 kj4 a3 (Int.tmod (wrap64 (a2)) (wrap64 (t714 + 1))) (wrap64 (t734 - t738)) 0 ((Int.tmod (wrap64 (a2)) (wrap64 (t714 + 1))) == t714) t712 t713 t714 t724 t725 t726 t727))) = some r := H
            have A49 := Aside0.mk A490
            clear A490
            obtain ⟨y735, hy735⟩ : ∃ y_ : List Int, y_ = (([43] : List Int)) := ⟨_, rfl⟩
            replace H : ((region_Count.f kj4 l1_3 y735).bind fun t738 => (if t712 = 1 then (salvorlaw18_PlanReads.j1 kj4 a3 (Int.tmod (wrap64 (a2)) (wrap64 (t714 + 1))) (wrap64 (t734 - t738)) 0 true t712 t713 t714 t724 t725 t726 t727) else (salvorlaw18_PlanReads.j1 kj4 a3 (Int.tmod (wrap64 (a2)) (wrap64 (t714 + 1))) (wrap64 (t734 - t738)) 0 ((Int.tmod (wrap64 (a2)) (wrap64 (t714 + 1))) == t714) t712 t713 t714 t724 t725 t726 t727))) = some r := by first | (rw [hy735]; with_reducible exact H) | (have H2_ := (Option.bind_some _ _).symm.trans H; rw [hy735]; with_reducible exact H2_) | (have H2_ := (Option.bind_some _ _).symm.trans H; with_reducible exact H2_) | with_reducible exact H | (rw [hy735]; exact H) | exact H
            have Ny735 := Aside0.mk hy735
            clear hy735
            replace H := Option.bind_eq_some_iff.mp H
            obtain ⟨t738, A500, H⟩ := H
            replace H : (if t712 = 1 then (salvorlaw18_PlanReads.j1 kj4 a3 (Int.tmod (wrap64 (a2)) (wrap64 (t714 + 1))) (wrap64 (t734 - t738)) 0 true t712 t713 t714 t724 t725 t726 t727) else (salvorlaw18_PlanReads.j1 kj4 a3 (Int.tmod (wrap64 (a2)) (wrap64 (t714 + 1))) (wrap64 (t734 - t738)) 0 ((Int.tmod (wrap64 (a2)) (wrap64 (t714 + 1))) == t714) t712 t713 t714 t724 t725 t726 t727)) = some r := H
            have A50 := Aside0.mk A500
            clear A500
            have HC51 := Aside0.mk H
            clear H
            have hnb52 := NB706_707.out
            have hnc52 := NB707_706.out
            have hcz53_0 : wc.cell? ⟨gb706, 0, none⟩ = some (.int .i64 a0_0) := (blk_cell BK706.out 0).trans rfl
            have hcz53_1 : wc.cell? ⟨gb706, 1, none⟩ = some (.int .i64 a0_1) := (blk_cell BK706.out 1).trans rfl
            have hcz53_2 : wc.cell? ⟨gb706, 2, none⟩ = some (.bool a0_2) := (blk_cell BK706.out 2).trans rfl
            have hfz53_0 := blk_frozen BK706.out 0
            have hfz53_1 := blk_frozen BK706.out 1
            have hfz53_2 := blk_frozen BK706.out 2
            have hcz54_0 : wc.cell? ⟨gb707, 0, none⟩ = some (.int .i64 a1_0) := (blk_cell BK707.out 0).trans rfl
            have hcz54_1 : wc.cell? ⟨gb707, 1, none⟩ = some (.int .i64 a1_1) := (blk_cell BK707.out 1).trans rfl
            have hcz54_2 : wc.cell? ⟨gb707, 2, none⟩ = some (.int .u8 a1_2) := (blk_cell BK707.out 2).trans rfl
            have hcz54_3 : wc.cell? ⟨gb707, 3, none⟩ = some (.slice A1_3 l1_3.length c1_3) := (blk_cell BK707.out 3).trans rfl
            have hfz54_0 := blk_frozen BK707.out 0
            have hfz54_1 := blk_frozen BK707.out 1
            have hfz54_2 := blk_frozen BK707.out 2
            have hfz54_3 := blk_frozen BK707.out 3
            try go_wp2_with (first | ((with_reducible refine gate_callee (f := 12) rfl ?_); refine gl_ (some 34) rfl rfl Try.func12 (by kernel_rfl) rfl #[.agg #[.int .i64 a0_0, .int .i64 a0_1, .bool a0_2], .agg #[.int .i64 a1_0, .int .i64 a1_1, .int .u8 a1_2, .slice A1_3 l1_3.length c1_3]] rfl ?_; (with_reducible refine (plan_Next.calls kj4 a0_0 a0_1 a0_2 a1_0 a1_1 a1_2 _ _ l1_3 t712 t713 t714 _ ?side1 ?side2 A28.out).mono ?_); (case side1 => exact cb_ HR1_3 HB); (case side2 => exact HC1_3.out); rintro e w55 ⟨rfl, hb⟩; refine ⟨_, rfl, ?_⟩; replace BK706 := bb_ BK706 hb; replace BK707 := bb_ BK707 hb; replace HB := bs_ HB hb; (try clear hb); (try clear hb2); (try clear hk); (try clear hi)) | ((with_reducible refine gate_dst (N := 9) rfl ?_); refine box_e 9 #[.int .i64 0, .int .i64 0, .int .i64 0] 29 ?_; intro gb715 hg w56 hbox hb; have BK715 := Aside0.mk hbox; have GW715 := bg_ HB hg; have GE715 := bg_ HB hg; have NB706_715 := bn_ BK706 hg; have NB715_706 := bm_ BK706 hg; have NB707_715 := bn_ BK707 hg; have NB715_707 := bm_ BK707 hg; replace BK706 := bb_ BK706 hb; replace BK707 := bb_ BK707 hb; replace HB := bs_ HB hb; clear hb hbox hg; have hnb57 := NB715_706.out; have hnc57 := NB706_715.out; have hnb58 := NB715_707.out; have hnc58 := NB707_715.out; have hcz59_0 : w56.cell? ⟨gb715, 0, none⟩ = some (.int .i64 0) := (blk_cell BK715.out 0).trans rfl; have hcz59_1 : w56.cell? ⟨gb715, 1, none⟩ = some (.int .i64 0) := (blk_cell BK715.out 1).trans rfl; have hcz59_2 : w56.cell? ⟨gb715, 2, none⟩ = some (.int .i64 0) := (blk_cell BK715.out 2).trans rfl; have hfz59_0 := blk_frozen BK715.out 0; have hfz59_1 := blk_frozen BK715.out 1; have hfz59_2 := blk_frozen BK715.out 2; have hcz60_0 : w56.cell? ⟨gb706, 0, none⟩ = some (.int .i64 a0_0) := (blk_cell BK706.out 0).trans rfl; have hcz60_1 : w56.cell? ⟨gb706, 1, none⟩ = some (.int .i64 a0_1) := (blk_cell BK706.out 1).trans rfl; have hcz60_2 : w56.cell? ⟨gb706, 2, none⟩ = some (.bool a0_2) := (blk_cell BK706.out 2).trans rfl; have hfz60_0 := blk_frozen BK706.out 0; have hfz60_1 := blk_frozen BK706.out 1; have hfz60_2 := blk_frozen BK706.out 2; have hcz61_0 : w56.cell? ⟨gb707, 0, none⟩ = some (.int .i64 a1_0) := (blk_cell BK707.out 0).trans rfl; have hcz61_1 : w56.cell? ⟨gb707, 1, none⟩ = some (.int .i64 a1_1) := (blk_cell BK707.out 1).trans rfl; have hcz61_2 : w56.cell? ⟨gb707, 2, none⟩ = some (.int .u8 a1_2) := (blk_cell BK707.out 2).trans rfl; have hcz61_3 : w56.cell? ⟨gb707, 3, none⟩ = some (.slice A1_3 l1_3.length c1_3) := (blk_cell BK707.out 3).trans rfl; have hfz61_0 := blk_frozen BK707.out 0; have hfz61_1 := blk_frozen BK707.out 1; have hfz61_2 := blk_frozen BK707.out 2; have hfz61_3 := blk_frozen BK707.out 3) | ((with_reducible refine gate_callee (f := 13) rfl ?_); refine gl_ (some 59) rfl rfl Try.func13 (by kernel_rfl) rfl #[.agg #[.int .i64 a0_0, .int .i64 a0_1, .bool a0_2], .agg #[.int .i64 a1_0, .int .i64 a1_1, .int .u8 a1_2, .slice A1_3 l1_3.length c1_3], .int .i64 (Int.tmod (wrap64 (a2)) (wrap64 (t714 + 1)))] rfl ?_; (with_reducible refine (plan_After.calls kj4 a0_0 a0_1 a0_2 a1_0 a1_1 a1_2 _ _ l1_3 (Int.tmod (wrap64 (a2)) (wrap64 (t714 + 1))) t724 t725 t726 t727 _ ?side1 ?side2 A48.out).mono ?_); (case side1 => exact Kd.C_below HR1_3.out (bh_ HB)); (case side2 => exact HC1_3.out); rintro e w62 ⟨v728, rfl, ho0, hb⟩; refine ⟨_, rfl, ?_⟩; have HO729 := Aside0.mk (Kd.R_lower ho0 (below_size (bh_ HB))); replace BK706 := Aside0.mk (blk_below (g := gb706) (o := .cells #[.int .i64 a0_0, .int .i64 a0_1, .bool a0_2] 23 (0, 0)) (bp_ BK706) hb); replace BK707 := Aside0.mk (blk_below (g := gb707) (o := .cells #[.int .i64 a1_0, .int .i64 a1_1, .int .u8 a1_2, .slice A1_3 l1_3.length c1_3] 26 (0, 0)) (bp_ BK707) hb); replace BK715 := Aside0.mk (blk_below (g := gb715) (o := .cells #[.int .i64 t712, .int .i64 t713, .int .i64 t714] 29 (0, 0)) (bp_ BK715) hb); replace HB := bs_ HB hb; (try clear hb); (try clear hb2); (try clear hk); (try clear hi); (try clear ho0)) | ((with_reducible refine gate_dst (N := 11) rfl ?_); refine box_e 11 #[.int .i64 0, .int .i64 0, .int .u8 0, .slice none 0 0] 26 ?_; intro gb730 hg w63 hbox hb; have n0_ := Aside0.mk (Kd.R_below (by (with_reducible repeat (first | apply Kd.R_alloc | apply Kd.R_drewN | apply Kd.R_drew)); exact HO729.out) hb); have n1_ := bb_ BK706 hb; have n2_ := bb_ BK707 hb; have n3_ := bb_ BK715 hb; have n4_ := bs_ HB hb; have n5_ := Aside0.mk hbox; have n6_ := bg_ HB hg; have n7_ := bg_ HB hg; have n8_ := bn_ BK706 hg; have n9_ := bm_ BK706 hg; have n10_ := bn_ BK707 hg; have n11_ := bm_ BK707 hg; have n12_ := bn_ BK715 hg; have n13_ := bm_ BK715 hg; clear HO729; clear BK706; clear BK707; clear BK715; clear HB; have HO729 := n0_; have BK706 := n1_; have BK707 := n2_; have BK715 := n3_; have HB := n4_; have BK730 := n5_; have GW730 := n6_; have GE730 := n7_; have NB706_730 := n8_; have NB730_706 := n9_; have NB707_730 := n10_; have NB730_707 := n11_; have NB715_730 := n12_; have NB730_715 := n13_; clear n0_ n1_ n2_ n3_ n4_ n5_ n6_ n7_ n8_ n9_ n10_ n11_ n12_ n13_; clear hb hbox hg; have hnb64 := NB730_706.out; have hnc64 := NB706_730.out; have hnb65 := NB730_707.out; have hnc65 := NB707_730.out; have hnb66 := NB730_715.out; have hnc66 := NB715_730.out; have hcz67_0 : w63.cell? ⟨gb730, 0, none⟩ = some (.int .i64 0) := (blk_cell BK730.out 0).trans rfl; have hcz67_1 : w63.cell? ⟨gb730, 1, none⟩ = some (.int .i64 0) := (blk_cell BK730.out 1).trans rfl; have hcz67_2 : w63.cell? ⟨gb730, 2, none⟩ = some (.int .u8 0) := (blk_cell BK730.out 2).trans rfl; have hcz67_3 : w63.cell? ⟨gb730, 3, none⟩ = some (.slice none 0 0) := (blk_cell BK730.out 3).trans rfl; have hfz67_0 := blk_frozen BK730.out 0; have hfz67_1 := blk_frozen BK730.out 1; have hfz67_2 := blk_frozen BK730.out 2; have hfz67_3 := blk_frozen BK730.out 3; obtain ⟨Ao68, co68, eo68⟩ := Kd.R_slice HO729.out; subst eo68))
            have n0_ : Aside0 (Kd.R k33 33 ((((w63.setCell ⟨gb730, 0, none⟩ (.int .i64 t724)).setCell ⟨gb730, 1, none⟩ (.int .i64 t725)).setCell ⟨gb730, 2, none⟩ (.int .u8 t726)).setCell ⟨gb730, 3, none⟩ (.slice Ao68 t727.length co68)) w.heap.size (fun _ => True) (.slice Ao68 t727.length co68) t727) := ⟨by (with_reducible repeat (first | apply Kd.R_alloc | apply Kd.R_drewN | apply Kd.R_drew)); exact Kd.R_mono (Kd.R_far (p := ⟨gb730, 3, none⟩) (Kd.R_far (p := ⟨gb730, 2, none⟩) (Kd.R_far (p := ⟨gb730, 1, none⟩) (Kd.R_far (p := ⟨gb730, 0, none⟩) (Kd.R_types HO729.out BK730.out (by decide)) (fun _ hk => hk.2) (.int .i64 t724)) (fun _ hk => hk.2) (.int .i64 t725)) (fun _ hk => hk.2) (.int .u8 t726)) (fun _ hk => hk.2) (.slice Ao68 t727.length co68)) (fun _ hk => trivial)⟩
            have n1_ : Aside0 (((((w63.setCell ⟨gb730, 0, none⟩ (.int .i64 t724)).setCell ⟨gb730, 1, none⟩ (.int .i64 t725)).setCell ⟨gb730, 2, none⟩ (.int .u8 t726)).setCell ⟨gb730, 3, none⟩ (.slice Ao68 t727.length co68)).heap[gb706]? = some (.cells #[.int .i64 a0_0, .int .i64 a0_1, .bool a0_2] 23 (0, 0))) := ⟨by (with_reducible repeat (first | refine blk_drewN ?_ _ | refine blk_drew ?_ | refine blk_alloc ?_ _)); refine blk_far ?_ NB706_730.out _; (with_reducible repeat (first | refine blk_drewN ?_ _ | refine blk_drew ?_ | refine blk_alloc ?_ _)); refine blk_far ?_ NB706_730.out _; (with_reducible repeat (first | refine blk_drewN ?_ _ | refine blk_drew ?_ | refine blk_alloc ?_ _)); refine blk_far ?_ NB706_730.out _; (with_reducible repeat (first | refine blk_drewN ?_ _ | refine blk_drew ?_ | refine blk_alloc ?_ _)); refine blk_far ?_ NB706_730.out _; (with_reducible repeat (first | refine blk_drewN ?_ _ | refine blk_drew ?_ | refine blk_alloc ?_ _)); exact BK706.out⟩
            have n2_ : Aside0 (((((w63.setCell ⟨gb730, 0, none⟩ (.int .i64 t724)).setCell ⟨gb730, 1, none⟩ (.int .i64 t725)).setCell ⟨gb730, 2, none⟩ (.int .u8 t726)).setCell ⟨gb730, 3, none⟩ (.slice Ao68 t727.length co68)).heap[gb707]? = some (.cells #[.int .i64 a1_0, .int .i64 a1_1, .int .u8 a1_2, .slice A1_3 l1_3.length c1_3] 26 (0, 0))) := ⟨by (with_reducible repeat (first | refine blk_drewN ?_ _ | refine blk_drew ?_ | refine blk_alloc ?_ _)); refine blk_far ?_ NB707_730.out _; (with_reducible repeat (first | refine blk_drewN ?_ _ | refine blk_drew ?_ | refine blk_alloc ?_ _)); refine blk_far ?_ NB707_730.out _; (with_reducible repeat (first | refine blk_drewN ?_ _ | refine blk_drew ?_ | refine blk_alloc ?_ _)); refine blk_far ?_ NB707_730.out _; (with_reducible repeat (first | refine blk_drewN ?_ _ | refine blk_drew ?_ | refine blk_alloc ?_ _)); refine blk_far ?_ NB707_730.out _; (with_reducible repeat (first | refine blk_drewN ?_ _ | refine blk_drew ?_ | refine blk_alloc ?_ _)); exact BK707.out⟩
            have n3_ : Aside0 (((((w63.setCell ⟨gb730, 0, none⟩ (.int .i64 t724)).setCell ⟨gb730, 1, none⟩ (.int .i64 t725)).setCell ⟨gb730, 2, none⟩ (.int .u8 t726)).setCell ⟨gb730, 3, none⟩ (.slice Ao68 t727.length co68)).heap[gb715]? = some (.cells #[.int .i64 t712, .int .i64 t713, .int .i64 t714] 29 (0, 0))) := ⟨by (with_reducible repeat (first | refine blk_drewN ?_ _ | refine blk_drew ?_ | refine blk_alloc ?_ _)); refine blk_far ?_ NB715_730.out _; (with_reducible repeat (first | refine blk_drewN ?_ _ | refine blk_drew ?_ | refine blk_alloc ?_ _)); refine blk_far ?_ NB715_730.out _; (with_reducible repeat (first | refine blk_drewN ?_ _ | refine blk_drew ?_ | refine blk_alloc ?_ _)); refine blk_far ?_ NB715_730.out _; (with_reducible repeat (first | refine blk_drewN ?_ _ | refine blk_drew ?_ | refine blk_alloc ?_ _)); refine blk_far ?_ NB715_730.out _; (with_reducible repeat (first | refine blk_drewN ?_ _ | refine blk_drew ?_ | refine blk_alloc ?_ _)); exact BK715.out⟩
            have n4_ : Aside0 (((((w63.setCell ⟨gb730, 0, none⟩ (.int .i64 t724)).setCell ⟨gb730, 1, none⟩ (.int .i64 t725)).setCell ⟨gb730, 2, none⟩ (.int .u8 t726)).setCell ⟨gb730, 3, none⟩ (.slice Ao68 t727.length co68)).heap[gb730]? = some (.cells #[.int .i64 t724, .int .i64 t725, .int .u8 t726, .slice Ao68 t727.length co68] 26 (0, 0))) := ⟨by (with_reducible repeat (first | refine blk_drewN ?_ _ | refine blk_drew ?_ | refine blk_alloc ?_ _)); refine blk_put (cs := #[.int .i64 t724, .int .i64 t725, .int .u8 t726, .slice none 0 0]) ?_ 3 _ rfl; (with_reducible repeat (first | refine blk_drewN ?_ _ | refine blk_drew ?_ | refine blk_alloc ?_ _)); refine blk_put (cs := #[.int .i64 t724, .int .i64 t725, .int .u8 0, .slice none 0 0]) ?_ 2 _ rfl; (with_reducible repeat (first | refine blk_drewN ?_ _ | refine blk_drew ?_ | refine blk_alloc ?_ _)); refine blk_put (cs := #[.int .i64 t724, .int .i64 0, .int .u8 0, .slice none 0 0]) ?_ 1 _ rfl; (with_reducible repeat (first | refine blk_drewN ?_ _ | refine blk_drew ?_ | refine blk_alloc ?_ _)); refine blk_put (cs := #[.int .i64 0, .int .i64 0, .int .u8 0, .slice none 0 0]) ?_ 0 _ rfl; (with_reducible repeat (first | refine blk_drewN ?_ _ | refine blk_drew ?_ | refine blk_alloc ?_ _)); exact BK730.out⟩
            have n5_ : Aside0 (Below w.heap.size w ((((w63.setCell ⟨gb730, 0, none⟩ (.int .i64 t724)).setCell ⟨gb730, 1, none⟩ (.int .i64 t725)).setCell ⟨gb730, 2, none⟩ (.int .u8 t726)).setCell ⟨gb730, 3, none⟩ (.slice Ao68 t727.length co68))) := ⟨by repeat (first | (with_reducible first | exact HB.out | apply below_alloc | apply pw_below_drewN | apply below_drew1 | refine below_set ?_ GE706.out | refine below_set ?_ GE707.out | refine below_set ?_ GE715.out | refine below_set ?_ GE730.out) | exact HB.out)⟩
            (try clear HO729)
            (try clear BK706)
            (try clear BK707)
            (try clear BK715)
            (try clear BK730)
            (try clear HB)
            generalize ((((w63.setCell ⟨gb730, 0, none⟩ (.int .i64 t724)).setCell ⟨gb730, 1, none⟩ (.int .i64 t725)).setCell ⟨gb730, 2, none⟩ (.int .u8 t726)).setCell ⟨gb730, 3, none⟩ (.slice Ao68 t727.length co68)) = w69 at n0_ n1_ n2_ n3_ n4_ n5_ ⊢
            have HO729 := n0_
            have BK706 := n1_
            have BK707 := n2_
            have BK715 := n3_
            have BK730 := n4_
            have HB := n5_
            clear n0_ n1_ n2_ n3_ n4_ n5_
            replace HO729 := Aside0.mk (Kd.R_drew HO729.out)
            replace BK706 := Aside0.mk (blk_drew BK706.out)
            replace BK707 := Aside0.mk (blk_drew BK707.out)
            replace BK715 := Aside0.mk (blk_drew BK715.out)
            replace BK730 := Aside0.mk (blk_drew BK730.out)
            replace HB := Aside0.mk (below_drew1 HB.out)
            refine start_ (n := 10) (S := fun w' => True) (ds := []) #[false, false, false, false, false, false, false, false, false, false] (by kernel_rfl) rfl rfl trivial (fun hHeld => ?_); refine with_tabW salvorlaw18_PlanReads.tab8 salvorlaw18_PlanReads.bits8 (fun HT_ HW_ => ?_)
            generalize w69.drew = w70 at HO729 BK706 BK707 BK715 BK730 HB hHeld ⊢
            refine pu_ 0 60 (lb_ 10 1) rfl rfl (any_of HT_.out (by kernel_rfl)) ?_
            refine pu_ 4 64 (lb_ 10 17) rfl rfl (any_of HT_.out (by kernel_rfl)) ?_
            refine inv_at [1, 2, 3, 5, 6, 7, 8, 9] (fun a0_ b a w' => ∃ (v732 : Value) (v736 : Value), a = putSel a0_ b [(1, 61, .slice Ao68 t727.length co68), (2, 62, v732), (3, 63, .int .i64 t734), (5, 65, .slice A1_3 l1_3.length c1_3), (6, 66, v736), (7, 67, .int .i64 t738), (8, 68, .int .i64 (wrap64 (t734 - t738))), (9, 12, .int .i64 (wrap64 (t734 - t738)))] ∧ (Kd.R k33 33 w' w.heap.size (fun _ => True) (.slice Ao68 t727.length co68) t727) ∧ (w'.heap[gb706]? = some (.cells #[.int .i64 a0_0, .int .i64 a0_1, .bool a0_2] 23 (0, 0))) ∧ (w'.heap[gb707]? = some (.cells #[.int .i64 a1_0, .int .i64 a1_1, .int .u8 a1_2, .slice A1_3 l1_3.length c1_3] 26 (0, 0))) ∧ (w'.heap[gb715]? = some (.cells #[.int .i64 t712, .int .i64 t713, .int .i64 t714] 29 (0, 0))) ∧ (w'.heap[gb730]? = some (.cells #[.int .i64 t724, .int .i64 t725, .int .u8 t726, .slice Ao68 t727.length co68] 26 (0, 0))) ∧ (Below w.heap.size w w') ∧ (b 2 = true → Kd.R (Kd.int .u8) 5 w' w.heap.size (fun _ => True) v732 y731) ∧ (b 6 = true → Kd.R (Kd.int .u8) 5 w' w.heap.size (fun _ => True) v736 y735)) HT_.out HW_.out (by kernel_rfl) (by kernel_rfl) ?_ ?_ ?_
            · exact ⟨.bool false, .bool false, by simp only [putSel, Bool.false_eq_true, if_false], HO729.out, BK706.out, BK707.out, BK715.out, BK730.out, HB.out, fun h_ => absurd h_ (by decide), fun h_ => absurd h_ (by decide)⟩
            · skip
              clear BK706 BK707 BK715 BK730 HB HO729
              refine steps_cons ?_ ?_
              · rintro b a w' ⟨v732, v736, ha, Q_HO729, Q_BK706, Q_BK707, Q_BK715, Q_BK730, Q_HB, Q_HO733, Q_HO737⟩ hb_ hon hoff
                refine ⟨_, rfl, fun K hK => ?_⟩
                have e60 : a.tmps[60]? = some (.pointer (some ⟨gb730, 3, none⟩)) := by rw [ha]; exact (putSel_off rfl).trans rfl
                replace ha := Aside0.mk ha
                have HO729 := Aside0.mk Q_HO729
                have BK706 := Aside0.mk Q_BK706
                have BK707 := Aside0.mk Q_BK707
                have BK715 := Aside0.mk Q_BK715
                have BK730 := Aside0.mk Q_BK730
                have HB := Aside0.mk Q_HB
                have hc0_ : w'.cell? ⟨gb730, 0, none⟩ = some (.int .i64 t724) := (blk_cell BK730.out 0).trans rfl
                have hc1_ : w'.cell? ⟨gb730, 1, none⟩ = some (.int .i64 t725) := (blk_cell BK730.out 1).trans rfl
                have hc2_ : w'.cell? ⟨gb730, 2, none⟩ = some (.int .u8 t726) := (blk_cell BK730.out 2).trans rfl
                have hc3_ : w'.cell? ⟨gb730, 3, none⟩ = some (.slice Ao68 t727.length co68) := (blk_cell BK730.out 3).trans rfl
                refine value_ (w1 := w') (v := .slice Ao68 t727.length co68) (by rfl) rfl ?_ ?_
                · go_simp
                  (try simp only [i64_w])
                  try rfl
                refine hK.out _ _ ⟨v732, v736, (by rw [ha.out]; exact putSel_upk 0 hb_ rfl rfl rfl), Q_HO729, Q_BK706, Q_BK707, Q_BK715, Q_BK730, Q_HB, Q_HO733, Q_HO737⟩
              refine steps_cons ?_ ?_
              · rintro b a w' ⟨v732, v736, ha, Q_HO729, Q_BK706, Q_BK707, Q_BK715, Q_BK730, Q_HB, Q_HO733, Q_HO737⟩ hb_ hon hoff
                refine ⟨_, rfl, fun K hK => ?_⟩
                replace ha := Aside0.mk ha
                have HO729 := Aside0.mk Q_HO729
                have BK706 := Aside0.mk Q_BK706
                have BK707 := Aside0.mk Q_BK707
                have BK715 := Aside0.mk Q_BK715
                have BK730 := Aside0.mk Q_BK730
                have HB := Aside0.mk Q_HB
                refine Kd.R_lit_step (Kd.int .u8) _ 5 ?hg (N := 62) ?hd (xs := ([43] : List Int)) (inner := [.int .u8 43]) (ok := fun _ => True) (okp := fun _ => True) ?hr ?hp (fun _ hk => hk) trivial (Below.refl _ _) (Nat.le_refl _) (by simp) ?_; (case hd => rfl); (case hg => rfl); (case hr => first | (go_simp; done) | (go_simp; rfl)); (case hp => exact (Reps.one (show Kd.M (Kd.int .u8) _ _ _ 43 [.int .u8 43] from rfl) (Reps.none _ _)))
                intro v732 w71 ho72 hb hg_ hnew_
                clear hg_ hnew_
                (first | rw [← Ny731.out] at ho72 | (simp only [Int.reduceToNat] at ho72; rw [← Ny731.out] at ho72))
                have n0_ := Aside0.mk (Kd.R_below (by (with_reducible repeat (first | apply Kd.R_alloc | apply Kd.R_drewN | apply Kd.R_drew)); exact HO729.out) hb)
                have n1_ := Aside0.mk (Kd.R_lower ho72 (below_size (bh_ HB)))
                have n2_ := bb_ BK706 hb
                have n3_ := bb_ BK707 hb
                have n4_ := bb_ BK715 hb
                have n5_ := bb_ BK730 hb
                have n6_ := bs_ HB hb
                have z_HO737 := fun (h0_ : b 6 = true) => (show Kd.R (Kd.int .u8) 5 w71 w.heap.size (fun _ => True) v736 y735 from by first | exact (Kd.R_elder' (by (with_reducible repeat (first | apply Kd.R_alloc | apply Kd.R_drewN | apply Kd.R_drew)); exact (Q_HO737 h0_)) (Kd.R_base ho72) hb) | exact Kd.R_mono (Kd.R_elder' (by (with_reducible repeat (first | apply Kd.R_alloc | apply Kd.R_drewN | apply Kd.R_drew)); exact (Q_HO737 h0_)) (Kd.R_base ho72) hb) (fun _ h_ => by first | trivial | exact h_ | exact h_.1))
                clear HO729
                clear BK706
                clear BK707
                clear BK715
                clear BK730
                clear HB
                have HO729 := n0_
                have HO733 := n1_
                have BK706 := n2_
                have BK707 := n3_
                have BK715 := n4_
                have BK730 := n5_
                have HB := n6_
                clear n0_ n1_ n2_ n3_ n4_ n5_ n6_
                clear hb ho72
                refine hK.out _ _ ⟨v732, v736, (by rw [ha.out]; exact putSel_upk 1 hb_ rfl rfl rfl), (by (with_reducible repeat (first | apply Kd.R_alloc | apply Kd.R_drewN | apply Kd.R_drew)); exact HO729.out), (bq_ BK706), (bq_ BK707), (bq_ BK715), (bq_ BK730), (bh_ HB), fun _ => (by (with_reducible repeat (first | apply Kd.R_alloc | apply Kd.R_drewN | apply Kd.R_drew)); exact HO733.out), z_HO737⟩
              refine steps_cons ?_ ?_
              · rintro b a w' ⟨v732, v736, ha, Q_HO729, Q_BK706, Q_BK707, Q_BK715, Q_BK730, Q_HB, Q_HO733, Q_HO737⟩ hb_ hon hoff
                refine ⟨_, rfl, fun K hK => ?_⟩
                have e61 : a.tmps[61]? = some (.slice Ao68 t727.length co68) := by rw [ha]; exact putSel_on (e := (1, 61, .slice Ao68 t727.length co68)) 0 rfl rfl (hon 1 (by kernel_rfl)) rfl
                have e62 : a.tmps[62]? = some (v732) := by rw [ha]; exact putSel_on (e := (2, 62, v732)) 1 rfl rfl (hon 2 (by kernel_rfl)) rfl
                replace ha := Aside0.mk ha
                have HO729 := Aside0.mk Q_HO729
                have BK706 := Aside0.mk Q_BK706
                have BK707 := Aside0.mk Q_BK707
                have BK715 := Aside0.mk Q_BK715
                have BK730 := Aside0.mk Q_BK730
                have HB := Aside0.mk Q_HB
                have HO733 := Aside0.mk (Q_HO733 (hon 2 (by kernel_rfl)))
                obtain ⟨Ao74, co74, eo74⟩ := Kd.R_slice HO733.out
                (first | subst eo74 | (injection eo74 with f1_ f2_ f3_; have f4_ := f1_.symm; have f5_ := f3_.symm; clear f1_ f2_ f3_; subst f4_; subst f5_))
                refine goes_ Try.func31 (by kernel_rfl) rfl #[.slice Ao68 t727.length co68, .slice Ao74 y731.length co74] (by rfl) rfl rfl (by first | (simp only [List.map_toArray, List.map_cons, List.map_nil, Act.eval, Array.getD_eq_getD_getElem?, Option.getD_some, e61, e62]; done) | (simp only [List.map_toArray, List.map_cons, List.map_nil, Act.eval, Array.getD_eq_getD_getElem?, Option.getD_some, e61, e62]; rfl)) ?_
                with_reducible refine (region_Count.calls kj4 _ _ t727 _ _ y731 t734 _ ?side1 ?side2 ?side3 ?side4 A49.out).mono ?_
                (case side1 => repeat (first | exact (Kd.R_reads' HO729.out).2.2 | (with_reducible refine Kd.C_alloc ?_ _) | (with_reducible refine Kd.C_drewN ?_ _) | (with_reducible refine Kd.C_drew ?_)))
                (case side2 => exact (Kd.R_reads' HO729.out).2.1)
                (case side3 => repeat (first | exact (Kd.R_reads' HO733.out).2.2 | (with_reducible refine Kd.C_alloc ?_ _) | (with_reducible refine Kd.C_drewN ?_ _) | (with_reducible refine Kd.C_drew ?_)))
                (case side4 => exact (Kd.R_reads' HO733.out).2.1)
                rintro e w75 ⟨rfl, hb⟩
                refine ⟨_, rfl, ?_⟩
                have n0_ := Aside0.mk (Kd.R_below (by (with_reducible repeat (first | apply Kd.R_alloc | apply Kd.R_drewN | apply Kd.R_drew)); exact HO729.out) hb)
                have n1_ := Aside0.mk (Kd.R_below (by (with_reducible repeat (first | apply Kd.R_alloc | apply Kd.R_drewN | apply Kd.R_drew)); exact HO733.out) hb)
                have n2_ := bb_ BK706 hb
                have n3_ := bb_ BK707 hb
                have n4_ := bb_ BK715 hb
                have n5_ := bb_ BK730 hb
                have n6_ := bs_ HB hb
                have z_HO737 := fun (h0_ : b 6 = true) => (show Kd.R (Kd.int .u8) 5 w75 w.heap.size (fun _ => True) v736 y735 from by first | exact (Kd.R_below (by (with_reducible repeat (first | apply Kd.R_alloc | apply Kd.R_drewN | apply Kd.R_drew)); exact (Q_HO737 h0_)) hb) | exact Kd.R_mono (Kd.R_below (by (with_reducible repeat (first | apply Kd.R_alloc | apply Kd.R_drewN | apply Kd.R_drew)); exact (Q_HO737 h0_)) hb) (fun _ h_ => by first | trivial | exact h_ | exact h_.1))
                clear HO729
                clear HO733
                clear BK706
                clear BK707
                clear BK715
                clear BK730
                clear HB
                have HO729 := n0_
                have HO733 := n1_
                have BK706 := n2_
                have BK707 := n3_
                have BK715 := n4_
                have BK730 := n5_
                have HB := n6_
                clear n0_ n1_ n2_ n3_ n4_ n5_ n6_
                (try clear hb)
                (try clear hb2)
                (try clear hk)
                (try clear hi)
                refine hK.out _ _ ⟨.slice Ao74 y731.length co74, v736, (by rw [ha.out]; exact putSel_upk 2 hb_ rfl rfl rfl), (by (with_reducible repeat (first | apply Kd.R_alloc | apply Kd.R_drewN | apply Kd.R_drew)); exact HO729.out), (bq_ BK706), (bq_ BK707), (bq_ BK715), (bq_ BK730), (bh_ HB), fun _ => (by (with_reducible repeat (first | apply Kd.R_alloc | apply Kd.R_drewN | apply Kd.R_drew)); exact HO733.out), z_HO737⟩
              refine steps_cons ?_ ?_
              · rintro b a w' ⟨v732, v736, ha, Q_HO729, Q_BK706, Q_BK707, Q_BK715, Q_BK730, Q_HB, Q_HO733, Q_HO737⟩ hb_ hon hoff
                refine ⟨_, rfl, fun K hK => ?_⟩
                have e64 : a.tmps[64]? = some (.pointer (some ⟨gb707, 3, none⟩)) := by rw [ha]; exact (putSel_off rfl).trans rfl
                replace ha := Aside0.mk ha
                have HO729 := Aside0.mk Q_HO729
                have BK706 := Aside0.mk Q_BK706
                have BK707 := Aside0.mk Q_BK707
                have BK715 := Aside0.mk Q_BK715
                have BK730 := Aside0.mk Q_BK730
                have HB := Aside0.mk Q_HB
                have hc0_ : w'.cell? ⟨gb707, 0, none⟩ = some (.int .i64 a1_0) := (blk_cell BK707.out 0).trans rfl
                have hc1_ : w'.cell? ⟨gb707, 1, none⟩ = some (.int .i64 a1_1) := (blk_cell BK707.out 1).trans rfl
                have hc2_ : w'.cell? ⟨gb707, 2, none⟩ = some (.int .u8 a1_2) := (blk_cell BK707.out 2).trans rfl
                have hc3_ : w'.cell? ⟨gb707, 3, none⟩ = some (.slice A1_3 l1_3.length c1_3) := (blk_cell BK707.out 3).trans rfl
                refine value_ (w1 := w') (v := .slice A1_3 l1_3.length c1_3) (by rfl) rfl ?_ ?_
                · go_simp
                  (try simp only [i64_w])
                  try rfl
                refine hK.out _ _ ⟨v732, v736, (by rw [ha.out]; exact putSel_upk 3 hb_ rfl rfl rfl), Q_HO729, Q_BK706, Q_BK707, Q_BK715, Q_BK730, Q_HB, Q_HO733, Q_HO737⟩
              refine steps_cons ?_ ?_
              · rintro b a w' ⟨v732, v736, ha, Q_HO729, Q_BK706, Q_BK707, Q_BK715, Q_BK730, Q_HB, Q_HO733, Q_HO737⟩ hb_ hon hoff
                refine ⟨_, rfl, fun K hK => ?_⟩
                replace ha := Aside0.mk ha
                have HO729 := Aside0.mk Q_HO729
                have BK706 := Aside0.mk Q_BK706
                have BK707 := Aside0.mk Q_BK707
                have BK715 := Aside0.mk Q_BK715
                have BK730 := Aside0.mk Q_BK730
                have HB := Aside0.mk Q_HB
                refine Kd.R_lit_step (Kd.int .u8) _ 5 ?hg (N := 66) ?hd (xs := ([43] : List Int)) (inner := [.int .u8 43]) (ok := fun _ => True) (okp := fun _ => True) ?hr ?hp (fun _ hk => hk) trivial (Below.refl _ _) (Nat.le_refl _) (by simp) ?_; (case hd => rfl); (case hg => rfl); (case hr => first | (go_simp; done) | (go_simp; rfl)); (case hp => exact (Reps.one (show Kd.M (Kd.int .u8) _ _ _ 43 [.int .u8 43] from rfl) (Reps.none _ _)))
                intro v736 w71 ho72 hb hg_ hnew_
                clear hg_ hnew_
                (first | rw [← Ny735.out] at ho72 | (simp only [Int.reduceToNat] at ho72; rw [← Ny735.out] at ho72))
                have n0_ := Aside0.mk (Kd.R_below (by (with_reducible repeat (first | apply Kd.R_alloc | apply Kd.R_drewN | apply Kd.R_drew)); exact HO729.out) hb)
                have n1_ := Aside0.mk (Kd.R_lower ho72 (below_size (bh_ HB)))
                have n2_ := bb_ BK706 hb
                have n3_ := bb_ BK707 hb
                have n4_ := bb_ BK715 hb
                have n5_ := bb_ BK730 hb
                have n6_ := bs_ HB hb
                have z_HO733 := fun (h0_ : b 2 = true) => (show Kd.R (Kd.int .u8) 5 w71 w.heap.size (fun _ => True) v732 y731 from by first | exact (Kd.R_elder' (by (with_reducible repeat (first | apply Kd.R_alloc | apply Kd.R_drewN | apply Kd.R_drew)); exact (Q_HO733 h0_)) (Kd.R_base ho72) hb) | exact Kd.R_mono (Kd.R_elder' (by (with_reducible repeat (first | apply Kd.R_alloc | apply Kd.R_drewN | apply Kd.R_drew)); exact (Q_HO733 h0_)) (Kd.R_base ho72) hb) (fun _ h_ => by first | trivial | exact h_ | exact h_.1))
                clear HO729
                clear BK706
                clear BK707
                clear BK715
                clear BK730
                clear HB
                have HO729 := n0_
                have HO737 := n1_
                have BK706 := n2_
                have BK707 := n3_
                have BK715 := n4_
                have BK730 := n5_
                have HB := n6_
                clear n0_ n1_ n2_ n3_ n4_ n5_ n6_
                clear hb ho72
                refine hK.out _ _ ⟨v732, v736, (by rw [ha.out]; exact putSel_upk 4 hb_ rfl rfl rfl), (by (with_reducible repeat (first | apply Kd.R_alloc | apply Kd.R_drewN | apply Kd.R_drew)); exact HO729.out), (bq_ BK706), (bq_ BK707), (bq_ BK715), (bq_ BK730), (bh_ HB), z_HO733, fun _ => (by (with_reducible repeat (first | apply Kd.R_alloc | apply Kd.R_drewN | apply Kd.R_drew)); exact HO737.out)⟩
              refine steps_cons ?_ ?_
              · rintro b a w' ⟨v732, v736, ha, Q_HO729, Q_BK706, Q_BK707, Q_BK715, Q_BK730, Q_HB, Q_HO733, Q_HO737⟩ hb_ hon hoff
                refine ⟨_, rfl, fun K hK => ?_⟩
                have e65 : a.tmps[65]? = some (.slice A1_3 l1_3.length c1_3) := by rw [ha]; exact putSel_on (e := (5, 65, .slice A1_3 l1_3.length c1_3)) 3 rfl rfl (hon 5 (by kernel_rfl)) rfl
                have e66 : a.tmps[66]? = some (v736) := by rw [ha]; exact putSel_on (e := (6, 66, v736)) 4 rfl rfl (hon 6 (by kernel_rfl)) rfl
                replace ha := Aside0.mk ha
                have HO729 := Aside0.mk Q_HO729
                have BK706 := Aside0.mk Q_BK706
                have BK707 := Aside0.mk Q_BK707
                have BK715 := Aside0.mk Q_BK715
                have BK730 := Aside0.mk Q_BK730
                have HB := Aside0.mk Q_HB
                have HO733 := Aside0.mk (Q_HO733 (hon 2 (by kernel_rfl)))
                have HO737 := Aside0.mk (Q_HO737 (hon 6 (by kernel_rfl)))
                obtain ⟨Ao78, co78, eo78⟩ := Kd.R_slice HO737.out
                (first | subst eo78 | (injection eo78 with f1_ f2_ f3_; have f4_ := f1_.symm; have f5_ := f3_.symm; clear f1_ f2_ f3_; subst f4_; subst f5_))
                refine goes_ Try.func31 (by kernel_rfl) rfl #[.slice A1_3 l1_3.length c1_3, .slice Ao78 y735.length co78] (by rfl) rfl rfl (by first | (simp only [List.map_toArray, List.map_cons, List.map_nil, Act.eval, Array.getD_eq_getD_getElem?, Option.getD_some, e65, e66]; done) | (simp only [List.map_toArray, List.map_cons, List.map_nil, Act.eval, Array.getD_eq_getD_getElem?, Option.getD_some, e65, e66]; rfl)) ?_
                with_reducible refine (region_Count.calls kj4 _ _ l1_3 _ _ y735 t738 _ ?side1 ?side2 ?side3 ?side4 A50.out).mono ?_
                (case side1 => exact cb_ HR1_3 HB)
                (case side2 => exact HC1_3.out)
                (case side3 => repeat (first | exact (Kd.R_reads' HO737.out).2.2 | (with_reducible refine Kd.C_alloc ?_ _) | (with_reducible refine Kd.C_drewN ?_ _) | (with_reducible refine Kd.C_drew ?_)))
                (case side4 => exact (Kd.R_reads' HO737.out).2.1)
                rintro e w79 ⟨rfl, hb⟩
                refine ⟨_, rfl, ?_⟩
                have n0_ := Aside0.mk (Kd.R_below (by (with_reducible repeat (first | apply Kd.R_alloc | apply Kd.R_drewN | apply Kd.R_drew)); exact HO729.out) hb)
                have n1_ := Aside0.mk (Kd.R_below (by (with_reducible repeat (first | apply Kd.R_alloc | apply Kd.R_drewN | apply Kd.R_drew)); exact HO733.out) hb)
                have n2_ := Aside0.mk (Kd.R_below (by (with_reducible repeat (first | apply Kd.R_alloc | apply Kd.R_drewN | apply Kd.R_drew)); exact HO737.out) hb)
                have n3_ := bb_ BK706 hb
                have n4_ := bb_ BK707 hb
                have n5_ := bb_ BK715 hb
                have n6_ := bb_ BK730 hb
                have n7_ := bs_ HB hb
                clear HO729
                clear HO733
                clear HO737
                clear BK706
                clear BK707
                clear BK715
                clear BK730
                clear HB
                have HO729 := n0_
                have HO733 := n1_
                have HO737 := n2_
                have BK706 := n3_
                have BK707 := n4_
                have BK715 := n5_
                have BK730 := n6_
                have HB := n7_
                clear n0_ n1_ n2_ n3_ n4_ n5_ n6_ n7_
                (try clear hb)
                (try clear hb2)
                (try clear hk)
                (try clear hi)
                refine hK.out _ _ ⟨v732, .slice Ao78 y735.length co78, (by rw [ha.out]; exact putSel_upk 5 hb_ rfl rfl rfl), (by (with_reducible repeat (first | apply Kd.R_alloc | apply Kd.R_drewN | apply Kd.R_drew)); exact HO729.out), (bq_ BK706), (bq_ BK707), (bq_ BK715), (bq_ BK730), (bh_ HB), fun _ => (by (with_reducible repeat (first | apply Kd.R_alloc | apply Kd.R_drewN | apply Kd.R_drew)); exact HO733.out), fun _ => (by (with_reducible repeat (first | apply Kd.R_alloc | apply Kd.R_drewN | apply Kd.R_drew)); exact HO737.out)⟩
              refine steps_cons ?_ ?_
              · rintro b a w' ⟨v732, v736, ha, Q_HO729, Q_BK706, Q_BK707, Q_BK715, Q_BK730, Q_HB, Q_HO733, Q_HO737⟩ hb_ hon hoff
                refine ⟨_, rfl, fun K hK => ?_⟩
                have e63 : a.tmps[63]? = some (.int .i64 t734) := by rw [ha]; exact putSel_on (e := (3, 63, .int .i64 t734)) 2 rfl rfl (hon 3 (by kernel_rfl)) rfl
                have e67 : a.tmps[67]? = some (.int .i64 t738) := by rw [ha]; exact putSel_on (e := (7, 67, .int .i64 t738)) 5 rfl rfl (hon 7 (by kernel_rfl)) rfl
                replace ha := Aside0.mk ha
                have HO729 := Aside0.mk Q_HO729
                have BK706 := Aside0.mk Q_BK706
                have BK707 := Aside0.mk Q_BK707
                have BK715 := Aside0.mk Q_BK715
                have BK730 := Aside0.mk Q_BK730
                have HB := Aside0.mk Q_HB
                have HO733 := Aside0.mk (Q_HO733 (hon 2 (by kernel_rfl)))
                have HO737 := Aside0.mk (Q_HO737 (hon 6 (by kernel_rfl)))
                refine value_ (w1 := w') (v := .int .i64 (wrap64 (t734 - t738))) (by rfl) rfl ?_ ?_
                · go_simp
                  (try simp only [i64_w])
                  try rfl
                refine hK.out _ _ ⟨v732, v736, (by rw [ha.out]; exact putSel_upk 6 hb_ rfl rfl rfl), Q_HO729, Q_BK706, Q_BK707, Q_BK715, Q_BK730, Q_HB, Q_HO733, Q_HO737⟩
              refine steps_cons ?_ ?_
              · rintro b a w' ⟨v732, v736, ha, Q_HO729, Q_BK706, Q_BK707, Q_BK715, Q_BK730, Q_HB, Q_HO733, Q_HO737⟩ hb_ hon hoff
                refine ⟨_, rfl, fun K hK => ?_⟩
                have e68 : a.tmps[68]? = some (.int .i64 (wrap64 (t734 - t738))) := by rw [ha]; exact putSel_on (e := (8, 68, .int .i64 (wrap64 (t734 - t738)))) 6 rfl rfl (hon 8 (by kernel_rfl)) rfl
                replace ha := Aside0.mk ha
                have HO729 := Aside0.mk Q_HO729
                have BK706 := Aside0.mk Q_BK706
                have BK707 := Aside0.mk Q_BK707
                have BK715 := Aside0.mk Q_BK715
                have BK730 := Aside0.mk Q_BK730
                have HB := Aside0.mk Q_HB
                have HO733 := Aside0.mk (Q_HO733 (hon 2 (by kernel_rfl)))
                have HO737 := Aside0.mk (Q_HO737 (hon 6 (by kernel_rfl)))
                refine value_ (w1 := w') (v := .int .i64 (wrap64 (t734 - t738))) (by rfl) rfl ?_ ?_
                · go_simp
                  (try simp only [i64_w])
                  try rfl
                refine hK.out _ _ ⟨v732, v736, (by rw [ha.out]; exact putSel_upk 7 hb_ rfl rfl rfl), Q_HO729, Q_BK706, Q_BK707, Q_BK715, Q_BK730, Q_HB, Q_HO733, Q_HO737⟩
              exact steps_nil
            rintro b a w79 hall ⟨v732, v736, ha, Q_HO729, Q_BK706, Q_BK707, Q_BK715, Q_BK730, Q_HB, Q_HO733, Q_HO737⟩
            clear BK706 BK707 BK715 BK730 HB HO729
            have hb1_ := hall 1 (by kernel_rfl)
            have hb2_ := hall 2 (by kernel_rfl)
            have hb3_ := hall 3 (by kernel_rfl)
            have hb5_ := hall 5 (by kernel_rfl)
            have hb6_ := hall 6 (by kernel_rfl)
            have hb7_ := hall 7 (by kernel_rfl)
            have hb8_ := hall 8 (by kernel_rfl)
            have hb9_ := hall 9 (by kernel_rfl)
            subst ha
            simp only [putSel, hb1_, hb2_, hb3_, hb5_, hb6_, hb7_, hb8_, hb9_, if_true, Act.put, List.setIfInBounds_toArray, List.set_cons_zero, List.set_cons_succ]
            have HO729 := Aside0.mk Q_HO729
            clear Q_HO729
            have BK706 := Aside0.mk Q_BK706
            clear Q_BK706
            have BK707 := Aside0.mk Q_BK707
            clear Q_BK707
            have BK715 := Aside0.mk Q_BK715
            clear Q_BK715
            have BK730 := Aside0.mk Q_BK730
            clear Q_BK730
            have HB := Aside0.mk Q_HB
            clear Q_HB
            have HO733 := Aside0.mk (Q_HO733 hb2_)
            clear Q_HO733
            have HO737 := Aside0.mk (Q_HO737 hb6_)
            clear Q_HO737
            clear hall hb1_ hb2_ hb3_ hb5_ hb6_ hb7_ hb8_ hb9_
            go_upto_region 10 with (fail)
            go_cut [77] (fun v77 wc => ∃ (kq : Nat) (x77_50 : Bool), v77 = .bool x77_50 ∧ Aside0 (salvorlaw18_PlanReads.j1 kq a3 (Int.tmod (wrap64 (a2)) (wrap64 (t714 + 1))) (wrap64 (t734 - t738)) 0 x77_50 t712 t713 t714 t724 t725 t726 t727 = some r) ∧ Aside0 (kq ≤ kj4) ∧ Aside0 (Kd.R k33 33 wc w.heap.size (fun _ => True) (.slice Ao68 t727.length co68) t727) ∧ Aside0 (wc.heap[gb706]? = some (.cells #[.int .i64 a0_0, .int .i64 a0_1, .bool a0_2] 23 (0, 0))) ∧ Aside0 (wc.heap[gb707]? = some (.cells #[.int .i64 a1_0, .int .i64 a1_1, .int .u8 a1_2, (.slice A1_3 l1_3.length c1_3)] 26 (0, 0))) ∧ Aside0 (wc.heap[gb715]? = some (.cells #[.int .i64 t712, .int .i64 t713, .int .i64 t714] 29 (0, 0))) ∧ Aside0 (wc.heap[gb730]? = some (.cells #[.int .i64 t724, .int .i64 t725, .int .u8 t726, (.slice Ao68 t727.length co68)] 26 (0, 0))) ∧ Aside0 (Below w.heap.size w wc))
            case first =>
              have H := HC51.out
              clear HC51
              by_cases c80 : t712 = 1
              · rw [if_pos c80] at H
                have c80b0 : (t712 == 1) = true := beq_iff_eq.mpr c80
                have c80b1 : (t712 != 1) = false := bne_eq_false_iff_eq.mpr c80
                clear c80
                (first | rw [c80b0] | (simp only [i64_w, i32_w]; rw [c80b0]) | skip)
                have H' := Aside0.mk H
                clear H
                have hnb81 := NB715_706.out
                have hnc81 := NB706_715.out
                have hnb82 := NB715_707.out
                have hnc82 := NB707_715.out
                have hnb83 := NB715_730.out
                have hnc83 := NB730_715.out
                have hcz84_0 : w79.cell? ⟨gb715, 0, none⟩ = some (.int .i64 t712) := (blk_cell BK715.out 0).trans rfl
                have hcz84_1 : w79.cell? ⟨gb715, 1, none⟩ = some (.int .i64 t713) := (blk_cell BK715.out 1).trans rfl
                have hcz84_2 : w79.cell? ⟨gb715, 2, none⟩ = some (.int .i64 t714) := (blk_cell BK715.out 2).trans rfl
                have hfz84_0 := blk_frozen BK715.out 0
                have hfz84_1 := blk_frozen BK715.out 1
                have hfz84_2 := blk_frozen BK715.out 2
                go_wp2
                go_meet
                case rel => exact ⟨_, (true), (by first | rfl | (simp; done) | (simp [*]; done)), H', ⟨by have := HJ4.out; first | omega | exact Nat.le_refl _⟩, ⟨by (with_reducible repeat (first | apply Kd.R_alloc | apply Kd.R_drewN | apply Kd.R_drew)); exact HO729.out⟩, ⟨by (with_reducible repeat (first | refine blk_drewN ?_ _ | refine blk_drew ?_ | refine blk_alloc ?_ _)); exact BK706.out⟩, ⟨by (with_reducible repeat (first | refine blk_drewN ?_ _ | refine blk_drew ?_ | refine blk_alloc ?_ _)); exact BK707.out⟩, ⟨by (with_reducible repeat (first | refine blk_drewN ?_ _ | refine blk_drew ?_ | refine blk_alloc ?_ _)); exact BK715.out⟩, ⟨by (with_reducible repeat (first | refine blk_drewN ?_ _ | refine blk_drew ?_ | refine blk_alloc ?_ _)); exact BK730.out⟩, ⟨by repeat (first | (with_reducible first | exact HB.out | apply below_alloc | apply pw_below_drewN | apply below_drew1 | refine below_set ?_ GE706.out | refine below_set ?_ GE707.out | refine below_set ?_ GE715.out | refine below_set ?_ GE730.out) | exact HB.out)⟩⟩
              · rw [if_neg c80] at H
                have c80b0 : (t712 == 1) = false := beq_eq_false_iff_ne.mpr c80
                have c80b1 : (t712 != 1) = true := bne_iff_ne.mpr c80
                (first | rw [c80b0] | (simp only [i64_w, i32_w]; rw [c80b0]) | skip)
                have H' := Aside0.mk H
                clear H
                have hnb85 := NB715_706.out
                have hnc85 := NB706_715.out
                have hnb86 := NB715_707.out
                have hnc86 := NB707_715.out
                have hnb87 := NB715_730.out
                have hnc87 := NB730_715.out
                have hcz88_0 : w79.cell? ⟨gb715, 0, none⟩ = some (.int .i64 t712) := (blk_cell BK715.out 0).trans rfl
                have hcz88_1 : w79.cell? ⟨gb715, 1, none⟩ = some (.int .i64 t713) := (blk_cell BK715.out 1).trans rfl
                have hcz88_2 : w79.cell? ⟨gb715, 2, none⟩ = some (.int .i64 t714) := (blk_cell BK715.out 2).trans rfl
                have hfz88_0 := blk_frozen BK715.out 0
                have hfz88_1 := blk_frozen BK715.out 1
                have hfz88_2 := blk_frozen BK715.out 2
                go_wp2
                go_meet
                case rel => exact ⟨_, (((Int.tmod (wrap64 (a2)) (wrap64 (t714 + 1))) == t714)), (by first | rfl | (simp; done) | (simp [*]; done)), H', ⟨by have := HJ4.out; first | omega | exact Nat.le_refl _⟩, ⟨by (with_reducible repeat (first | apply Kd.R_alloc | apply Kd.R_drewN | apply Kd.R_drew)); exact HO729.out⟩, ⟨by (with_reducible repeat (first | refine blk_drewN ?_ _ | refine blk_drew ?_ | refine blk_alloc ?_ _)); exact BK706.out⟩, ⟨by (with_reducible repeat (first | refine blk_drewN ?_ _ | refine blk_drew ?_ | refine blk_alloc ?_ _)); exact BK707.out⟩, ⟨by (with_reducible repeat (first | refine blk_drewN ?_ _ | refine blk_drew ?_ | refine blk_alloc ?_ _)); exact BK715.out⟩, ⟨by (with_reducible repeat (first | refine blk_drewN ?_ _ | refine blk_drew ?_ | refine blk_alloc ?_ _)); exact BK730.out⟩, ⟨by repeat (first | (with_reducible first | exact HB.out | apply below_alloc | apply pw_below_drewN | apply below_drew1 | refine below_set ?_ GE706.out | refine below_set ?_ GE707.out | refine below_set ?_ GE715.out | refine below_set ?_ GE730.out) | exact HB.out)⟩⟩
            case rest =>
              clear HC51
              try clear c1
              try clear c2
              try clear p2
              try clear c3
              try clear c4
              try clear c5
              try clear c6
              try clear p6
              try clear c8
              try clear c12
              try clear c13
              try clear c29
              try clear c29b0
              try clear c29b1
              try clear c30
              try clear c31
              try clear c32
              try clear c47
              try clear c47b0
              try clear c47b1
              try clear c52
              try clear c57
              try clear c58
              try clear c64
              try clear p64
              try clear c65
              try clear c66
              try clear c80
              try clear c80b0
              try clear c80b1
              try clear c81
              try clear c82
              try clear c83
              try clear c85
              try clear c86
              try clear c87
              try clear hcz53_0
              try clear hcz53_1
              try clear hcz53_2
              try clear hcz54_0
              try clear hcz54_1
              try clear hcz54_2
              try clear hcz54_3
              try clear hcz59_0
              try clear hcz59_1
              try clear hcz59_2
              try clear hcz60_0
              try clear hcz60_1
              try clear hcz60_2
              try clear hcz61_0
              try clear hcz61_1
              try clear hcz61_2
              try clear hcz61_3
              try clear hcz67_0
              try clear hcz67_1
              try clear hcz67_2
              try clear hcz67_3
              try clear hcz84_0
              try clear hcz84_1
              try clear hcz84_2
              try clear hcz88_0
              try clear hcz88_1
              try clear hcz88_2
              try clear hfz53_0
              try clear hfz53_1
              try clear hfz53_2
              try clear hfz54_0
              try clear hfz54_1
              try clear hfz54_2
              try clear hfz54_3
              try clear hfz59_0
              try clear hfz59_1
              try clear hfz59_2
              try clear hfz60_0
              try clear hfz60_1
              try clear hfz60_2
              try clear hfz61_0
              try clear hfz61_1
              try clear hfz61_2
              try clear hfz61_3
              try clear hfz67_0
              try clear hfz67_1
              try clear hfz67_2
              try clear hfz67_3
              try clear hfz84_0
              try clear hfz84_1
              try clear hfz84_2
              try clear hfz88_0
              try clear hfz88_1
              try clear hfz88_2
              obtain ⟨kq, x77_50, rfl, HA, HJ50, HO_731003, BK706, BK707, BK715, BK730, HB⟩ := hcut
              cases kq with
              | zero => exact absurd HA.out (by simp [salvorlaw18_PlanReads.j1])
              | succ kj50 =>
                have H := HA.out
                clear HA
                simp only [salvorlaw18_PlanReads.j1] at H
                have HC89 := Aside0.mk H
                clear H
                go_upto_if 77 with (fail)
                go_cut [13] (fun v13 wc => ∃ (kq : Nat) (x13_88 : Int), v13 = .int .i64 x13_88 ∧ Aside0 (salvorlaw18_PlanReads.j2 kq a3 (Int.tmod (wrap64 (a2)) (wrap64 (t714 + 1))) (wrap64 (t734 - t738)) x13_88 t712 t713 t714 t724 t725 t726 t727 = some r) ∧ Aside0 (kq ≤ kj50) ∧ Aside0 (Kd.R k33 33 wc w.heap.size (fun _ => True) (.slice Ao68 t727.length co68) t727) ∧ Aside0 (wc.heap[gb706]? = some (.cells #[.int .i64 a0_0, .int .i64 a0_1, .bool a0_2] 23 (0, 0))) ∧ Aside0 (wc.heap[gb707]? = some (.cells #[.int .i64 a1_0, .int .i64 a1_1, .int .u8 a1_2, (.slice A1_3 l1_3.length c1_3)] 26 (0, 0))) ∧ Aside0 (wc.heap[gb715]? = some (.cells #[.int .i64 t712, .int .i64 t713, .int .i64 t714] 29 (0, 0))) ∧ Aside0 (wc.heap[gb730]? = some (.cells #[.int .i64 t724, .int .i64 t725, .int .u8 t726, (.slice Ao68 t727.length co68)] 26 (0, 0))) ∧ Aside0 (Below w.heap.size w wc))
                case first =>
                  have H := HC89.out
                  clear HC89
                  by_cases c90 : x77_50 = true
                  · subst c90
                    have H1 : (salvorlaw18_PlanReads.j2 kj50 a3 (Int.tmod (wrap64 (a2)) (wrap64 (t714 + 1))) (wrap64 (t734 - t738)) (Int.tmod (wrap64 (a2)) (wrap64 (t714 + 1))) t712 t713 t714 t724 t725 t726 t727) = some r := by rw [if_pos rfl] at H; exact H
                    clear H
                    have H := H1
                    clear H1
                    have H' := Aside0.mk H
                    clear H
                    go_wp2
                    go_meet
                    case rel => exact ⟨_, ((Int.tmod (wrap64 (a2)) (wrap64 (t714 + 1)))), (by first | rfl | (simp; done) | (simp [*]; done)), H', ⟨by have := HJ4.out; have := HJ50.out; first | omega | exact Nat.le_refl _⟩, ⟨by (with_reducible repeat (first | apply Kd.R_alloc | apply Kd.R_drewN | apply Kd.R_drew)); exact HO_731003.out⟩, ⟨by (with_reducible repeat (first | refine blk_drewN ?_ _ | refine blk_drew ?_ | refine blk_alloc ?_ _)); exact BK706.out⟩, ⟨by (with_reducible repeat (first | refine blk_drewN ?_ _ | refine blk_drew ?_ | refine blk_alloc ?_ _)); exact BK707.out⟩, ⟨by (with_reducible repeat (first | refine blk_drewN ?_ _ | refine blk_drew ?_ | refine blk_alloc ?_ _)); exact BK715.out⟩, ⟨by (with_reducible repeat (first | refine blk_drewN ?_ _ | refine blk_drew ?_ | refine blk_alloc ?_ _)); exact BK730.out⟩, ⟨by repeat (first | (with_reducible first | exact HB.out | apply below_alloc | apply pw_below_drewN | apply below_drew1 | refine below_set ?_ GE706.out | refine below_set ?_ GE707.out | refine below_set ?_ GE715.out | refine below_set ?_ GE730.out) | exact HB.out)⟩⟩
                  · replace c90 := Bool.eq_false_iff.mpr c90
                    subst c90
                    have H1 : (salvorlaw18_PlanReads.j2 kj50 a3 (Int.tmod (wrap64 (a2)) (wrap64 (t714 + 1))) (wrap64 (t734 - t738)) 0 t712 t713 t714 t724 t725 t726 t727) = some r := by rw [if_neg (show ¬ (false = true) by decide)] at H; exact H
                    clear H
                    have H := H1
                    clear H1
                    have H' := Aside0.mk H
                    clear H
                    go_wp2
                    go_meet
                    case rel => exact ⟨_, (0), (by first | rfl | (simp; done) | (simp [*]; done)), H', ⟨by have := HJ4.out; have := HJ50.out; first | omega | exact Nat.le_refl _⟩, ⟨by (with_reducible repeat (first | apply Kd.R_alloc | apply Kd.R_drewN | apply Kd.R_drew)); exact HO_731003.out⟩, ⟨by (with_reducible repeat (first | refine blk_drewN ?_ _ | refine blk_drew ?_ | refine blk_alloc ?_ _)); exact BK706.out⟩, ⟨by (with_reducible repeat (first | refine blk_drewN ?_ _ | refine blk_drew ?_ | refine blk_alloc ?_ _)); exact BK707.out⟩, ⟨by (with_reducible repeat (first | refine blk_drewN ?_ _ | refine blk_drew ?_ | refine blk_alloc ?_ _)); exact BK715.out⟩, ⟨by (with_reducible repeat (first | refine blk_drewN ?_ _ | refine blk_drew ?_ | refine blk_alloc ?_ _)); exact BK730.out⟩, ⟨by repeat (first | (with_reducible first | exact HB.out | apply below_alloc | apply pw_below_drewN | apply below_drew1 | refine below_set ?_ GE706.out | refine below_set ?_ GE707.out | refine below_set ?_ GE715.out | refine below_set ?_ GE730.out) | exact HB.out)⟩⟩
                case rest =>
                  clear HC89
                  try clear c1
                  try clear c2
                  try clear p2
                  try clear c3
                  try clear c4
                  try clear c5
                  try clear c6
                  try clear p6
                  try clear c8
                  try clear c9
                  try clear c12
                  try clear c13
                  try clear c29
                  try clear c29b0
                  try clear c29b1
                  try clear c30
                  try clear c31
                  try clear c32
                  try clear c47
                  try clear c47b0
                  try clear c47b1
                  try clear c52
                  try clear c57
                  try clear c58
                  try clear c64
                  try clear p64
                  try clear c65
                  try clear c66
                  try clear c80
                  try clear c80b0
                  try clear c80b1
                  try clear c81
                  try clear c82
                  try clear c83
                  try clear c85
                  try clear c86
                  try clear c87
                  try clear c90
                  try clear hcz53_0
                  try clear hcz53_1
                  try clear hcz53_2
                  try clear hcz54_0
                  try clear hcz54_1
                  try clear hcz54_2
                  try clear hcz54_3
                  try clear hcz59_0
                  try clear hcz59_1
                  try clear hcz59_2
                  try clear hcz60_0
                  try clear hcz60_1
                  try clear hcz60_2
                  try clear hcz61_0
                  try clear hcz61_1
                  try clear hcz61_2
                  try clear hcz61_3
                  try clear hcz67_0
                  try clear hcz67_1
                  try clear hcz67_2
                  try clear hcz67_3
                  try clear hcz84_0
                  try clear hcz84_1
                  try clear hcz84_2
                  try clear hcz88_0
                  try clear hcz88_1
                  try clear hcz88_2
                  try clear hfz53_0
                  try clear hfz53_1
                  try clear hfz53_2
                  try clear hfz54_0
                  try clear hfz54_1
                  try clear hfz54_2
                  try clear hfz54_3
                  try clear hfz59_0
                  try clear hfz59_1
                  try clear hfz59_2
                  try clear hfz60_0
                  try clear hfz60_1
                  try clear hfz60_2
                  try clear hfz61_0
                  try clear hfz61_1
                  try clear hfz61_2
                  try clear hfz61_3
                  try clear hfz67_0
                  try clear hfz67_1
                  try clear hfz67_2
                  try clear hfz67_3
                  try clear hfz84_0
                  try clear hfz84_1
                  try clear hfz84_2
                  try clear hfz88_0
                  try clear hfz88_1
                  try clear hfz88_2
                  try clear p2
                  try clear p6
                  try clear p64
                  obtain ⟨kq, x13_88, rfl, HA, HJ88, HO_731003, BK706, BK707, BK715, BK730, HB⟩ := hcut
                  cases kq with
                  | zero => exact absurd HA.out (by simp [salvorlaw18_PlanReads.j2])
                  | succ kj88 =>
                    have H := HA.out
                    clear HA
                    simp only [salvorlaw18_PlanReads.j2] at H
                    replace H := Option.bind_eq_some_iff.mp H
                    obtain ⟨⟨t739, t740, t741, t742⟩, A910, H⟩ := H
                    replace H : (if a3 ≥ t713 then (if (wrap64 (t734 - t738)) = x13_88 then (if (a3 < (wrap64 (t713 + (Int.tmod (wrap64 (a2)) (wrap64 (t714 + 1)))))) then (if t712 = 1 then (if t742 = true then (if t741 = 43 then ((salvorlaw18_PlanRuns.f kj88).bind fun t744 => (some t744)) else (some false)) else (some false)) else (if (Int.tmod (wrap64 (a2)) (wrap64 (t714 + 1))) < t714 then ((salvorlaw18_PlanRuns.f kj88).bind fun t745 => (some t745)) else (if t742 = true then (if t741 = 43 then ((salvorlaw18_PlanRuns.f kj88).bind fun t746 => (some t746)) else (some false)) else (some false)))) else ((salvorlaw18_PlanRuns.f kj88).bind fun t747 => (some t747))) else (some false)) else (if (wrap64 (t734 - t738)) = x13_88 then ((salvorlaw18_PlanRuns.f kj88).bind fun t748 => (some t748)) else (some false))) = some r := H
                    have A91 := Aside0.mk A910
                    clear A910
                    by_cases c92 : a3 ≥ t713
                    · rw [if_pos c92] at H
                      have c92b0 : decide (t713 ≤ a3) = true := decide_eq_true c92
                      clear c92
                      by_cases c93 : (wrap64 (t734 - t738)) = x13_88
                      · rw [if_pos c93] at H
                        have c93b0 : ((wrap64 (t734 - t738)) == x13_88) = true := beq_iff_eq.mpr c93
                        have c93b1 : ((wrap64 (t734 - t738)) != x13_88) = false := bne_eq_false_iff_eq.mpr c93
                        clear c93
                        by_cases c94 : (a3 < (wrap64 (t713 + (Int.tmod (wrap64 (a2)) (wrap64 (t714 + 1))))))
                        · rw [if_pos c94] at H
                          have c94b0 : decide (a3 < (wrap64 (t713 + (Int.tmod (wrap64 (a2)) (wrap64 (t714 + 1)))))) = true := decide_eq_true c94
                          clear c94
                          by_cases c95 : t712 = 1
                          · rw [if_pos c95] at H
                            have c95b0 : (t712 == 1) = true := beq_iff_eq.mpr c95
                            have c95b1 : (t712 != 1) = false := bne_eq_false_iff_eq.mpr c95
                            clear c95
                            by_cases c96 : t742 = true
                            · subst c96
                              have H1 : (if t741 = 43 then ((salvorlaw18_PlanRuns.f kj88).bind fun t744 => (some t744)) else (some false)) = some r := by rw [if_pos rfl] at H; exact H
                              clear H
                              have H := H1
                              clear H1
                              by_cases c97 : t741 = 43
                              · rw [if_pos c97] at H
                                have c97b0 : (t741 == 43) = true := beq_iff_eq.mpr c97
                                have c97b1 : (t741 != 43) = false := bne_eq_false_iff_eq.mpr c97
                                clear c97
                                replace H := Option.bind_eq_some_iff.mp H
                                obtain ⟨t744, A980, H⟩ := H
                                replace H : (some t744) = some r := H
                                have A98 := Aside0.mk A980
                                clear A980
                                obtain rfl := Option.some.inj H
                                have hnb99 := NB730_706.out
                                have hnc99 := NB706_730.out
                                have hnb100 := NB730_707.out
                                have hnc100 := NB707_730.out
                                have hnb101 := NB730_715.out
                                have hnc101 := NB715_730.out
                                have hcz102_0 : wc.cell? ⟨gb730, 0, none⟩ = some (.int .i64 t724) := (blk_cell BK730.out 0).trans rfl
                                have hcz102_1 : wc.cell? ⟨gb730, 1, none⟩ = some (.int .i64 t725) := (blk_cell BK730.out 1).trans rfl
                                have hcz102_2 : wc.cell? ⟨gb730, 2, none⟩ = some (.int .u8 t726) := (blk_cell BK730.out 2).trans rfl
                                have hcz102_3 : wc.cell? ⟨gb730, 3, none⟩ = some (.slice Ao68 t727.length co68) := (blk_cell BK730.out 3).trans rfl
                                have hfz102_0 := blk_frozen BK730.out 0
                                have hfz102_1 := blk_frozen BK730.out 1
                                have hfz102_2 := blk_frozen BK730.out 2
                                have hfz102_3 := blk_frozen BK730.out 3
                                go_wp2_with (first | ((with_reducible refine gate_callee (f := 20) rfl ?_); refine gl_ (some 83) rfl rfl Try.func20 (by kernel_rfl) rfl #[.slice Ao68 t727.length co68, .int .i64 a3] rfl ?_; (with_reducible refine (region_At.calls kj88 _ _ t727 a3 t739 t740 t741 true _ ?side1 ?side2 A91.out).mono ?_); (case side1 => repeat (first | exact (Kd.R_reads' HO_731003.out).2.2 | (with_reducible refine Kd.C_alloc ?_ _) | (with_reducible refine Kd.C_drewN ?_ _) | (with_reducible refine Kd.C_drew ?_))); (case side2 => exact (Kd.R_reads' HO_731003.out).2.1); rintro e w103 ⟨rfl, hb⟩; refine ⟨_, rfl, ?_⟩; have n0_ := Aside0.mk (Kd.R_below (by (with_reducible repeat (first | apply Kd.R_alloc | apply Kd.R_drewN | apply Kd.R_drew)); exact HO_731003.out) hb); have n1_ := bb_ BK706 hb; have n2_ := bb_ BK707 hb; have n3_ := bb_ BK715 hb; have n4_ := bb_ BK730 hb; have n5_ := bs_ HB hb; clear HO_731003; clear BK706; clear BK707; clear BK715; clear BK730; clear HB; have HO_731003 := n0_; have BK706 := n1_; have BK707 := n2_; have BK715 := n3_; have BK730 := n4_; have HB := n5_; clear n0_ n1_ n2_ n3_ n4_ n5_; (try clear hb); (try clear hb2); (try clear hk); (try clear hi)) | ((with_reducible refine gate_dst (N := 14) rfl ?_); refine box_e 14 #[.int .i64 0, .int .i64 0, .int .u8 0] 33 ?_; intro gb743 hg w104 hbox hb; have n0_ := Aside0.mk (Kd.R_below (Kd.R_elderB (by (with_reducible repeat (first | apply Kd.R_alloc | apply Kd.R_drewN | apply Kd.R_drew)); exact HO_731003.out) gb743 (Nat.le_of_eq hg.symm)) hb); have n1_ := bb_ BK706 hb; have n2_ := bb_ BK707 hb; have n3_ := bb_ BK715 hb; have n4_ := bb_ BK730 hb; have n5_ := bs_ HB hb; have n6_ := Aside0.mk hbox; have n7_ := bg_ HB hg; have n8_ := bg_ HB hg; have n9_ := bn_ BK706 hg; have n10_ := bm_ BK706 hg; have n11_ := bn_ BK707 hg; have n12_ := bm_ BK707 hg; have n13_ := bn_ BK715 hg; have n14_ := bm_ BK715 hg; have n15_ := bn_ BK730 hg; have n16_ := bm_ BK730 hg; clear HO_731003; clear BK706; clear BK707; clear BK715; clear BK730; clear HB; have HO_731003 := n0_; have BK706 := n1_; have BK707 := n2_; have BK715 := n3_; have BK730 := n4_; have HB := n5_; have BK743 := n6_; have GW743 := n7_; have GE743 := n8_; have NB706_743 := n9_; have NB743_706 := n10_; have NB707_743 := n11_; have NB743_707 := n12_; have NB715_743 := n13_; have NB743_715 := n14_; have NB730_743 := n15_; have NB743_730 := n16_; clear n0_ n1_ n2_ n3_ n4_ n5_ n6_ n7_ n8_ n9_ n10_ n11_ n12_ n13_ n14_ n15_ n16_; clear hb hbox hg; have hnb105 := NB743_706.out; have hnc105 := NB706_743.out; have hnb106 := NB743_707.out; have hnc106 := NB707_743.out; have hnb107 := NB743_715.out; have hnc107 := NB715_743.out; have hnb108 := NB743_730.out; have hnc108 := NB730_743.out; have hcz109_0 : w104.cell? ⟨gb743, 0, none⟩ = some (.int .i64 0) := (blk_cell BK743.out 0).trans rfl; have hcz109_1 : w104.cell? ⟨gb743, 1, none⟩ = some (.int .i64 0) := (blk_cell BK743.out 1).trans rfl; have hcz109_2 : w104.cell? ⟨gb743, 2, none⟩ = some (.int .u8 0) := (blk_cell BK743.out 2).trans rfl; have hfz109_0 := blk_frozen BK743.out 0; have hfz109_1 := blk_frozen BK743.out 1; have hfz109_2 := blk_frozen BK743.out 2; have hnb110 := NB715_706.out; have hnc110 := NB706_715.out; have hnb111 := NB715_707.out; have hnc111 := NB707_715.out; have hcz112_0 : w104.cell? ⟨gb715, 0, none⟩ = some (.int .i64 t712) := (blk_cell BK715.out 0).trans rfl; have hcz112_1 : w104.cell? ⟨gb715, 1, none⟩ = some (.int .i64 t713) := (blk_cell BK715.out 1).trans rfl; have hcz112_2 : w104.cell? ⟨gb715, 2, none⟩ = some (.int .i64 t714) := (blk_cell BK715.out 2).trans rfl; have hfz112_0 := blk_frozen BK715.out 0; have hfz112_1 := blk_frozen BK715.out 1; have hfz112_2 := blk_frozen BK715.out 2) | (go_at_call 3; (with_reducible refine (salvorlaw18_PlanRuns.calls kj88  t744 _ A98.out).mono ?_); rintro e w113 ⟨rfl, hb⟩; have n0_ := Aside0.mk (Kd.R_below (by (with_reducible repeat (first | apply Kd.R_alloc | apply Kd.R_drewN | apply Kd.R_drew)); exact (Kd.R_mono (Kd.R_far (p := ⟨gb743, 2, none⟩) (Kd.R_far (p := ⟨gb743, 1, none⟩) (Kd.R_far (p := ⟨gb743, 0, none⟩) (Kd.R_mono HO_731003.out (fun k_ hk => (⟨hk, hk.2⟩ : _ ∧ k_ ≠ gb743))) (fun _ hk => hk.2) (.int .i64 t739)) (fun _ hk => hk.2) (.int .i64 t740)) (fun _ hk => hk.2) (.int .u8 t741)) (fun _ h_ => h_.1))) hb); have n1_ := Aside0.mk (blk_below (g := gb706) (o := .cells #[.int .i64 a0_0, .int .i64 a0_1, .bool a0_2] 23 (0, 0)) (bp_ BK706) hb); have n2_ := Aside0.mk (blk_below (g := gb707) (o := .cells #[.int .i64 a1_0, .int .i64 a1_1, .int .u8 a1_2, .slice A1_3 l1_3.length c1_3] 26 (0, 0)) (bp_ BK707) hb); have n3_ := Aside0.mk (blk_below (g := gb715) (o := .cells #[.int .i64 t712, .int .i64 t713, .int .i64 t714] 29 (0, 0)) (bp_ BK715) hb); have n4_ := Aside0.mk (blk_below (g := gb730) (o := .cells #[.int .i64 t724, .int .i64 t725, .int .u8 t726, .slice Ao68 t727.length co68] 26 (0, 0)) (bp_ BK730) hb); have n5_ := Aside0.mk (blk_below (g := gb743) (o := .cells #[.int .i64 t739, .int .i64 t740, .int .u8 t741] 33 (0, 0)) (bp_ BK743) hb); have n6_ := bs_ HB hb; clear HO_731003; clear BK706; clear BK707; clear BK715; clear BK730; clear BK743; clear HB; have HO_731003 := n0_; have BK706 := n1_; have BK707 := n2_; have BK715 := n3_; have BK730 := n4_; have BK743 := n5_; have HB := n6_; clear n0_ n1_ n2_ n3_ n4_ n5_ n6_; (try clear hb); (try clear hb2); (try clear hk); (try clear hi)))
                                go_ret
                                exact ⟨by first | rfl | (simp [errW_none, errW_some] <;> rfl) | (simp [*, errW_none, errW_some] <;> rfl), bh_ HB⟩
                              · rw [if_neg c97] at H
                                have c97b0 : (t741 == 43) = false := beq_eq_false_iff_ne.mpr c97
                                have c97b1 : (t741 != 43) = true := bne_iff_ne.mpr c97
                                exact absurd ((Option.some.inj H).trans HT.out) (by simp)
                            · replace c96 := Bool.eq_false_iff.mpr c96
                              subst c96
                              have H1 : (some false) = some r := by rw [if_neg (show ¬ (false = true) by decide)] at H; exact H
                              clear H
                              have H := H1
                              clear H1
                              exact absurd ((Option.some.inj H).trans HT.out) (by simp)
                          · rw [if_neg c95] at H
                            have c95b0 : (t712 == 1) = false := beq_eq_false_iff_ne.mpr c95
                            have c95b1 : (t712 != 1) = true := bne_iff_ne.mpr c95
                            by_cases c114 : (Int.tmod (wrap64 (a2)) (wrap64 (t714 + 1))) < t714
                            · rw [if_pos c114] at H
                              have c114b0 : decide ((Int.tmod (wrap64 (a2)) (wrap64 (t714 + 1))) < t714) = true := decide_eq_true c114
                              clear c114
                              replace H := Option.bind_eq_some_iff.mp H
                              obtain ⟨t745, A1150, H⟩ := H
                              replace H : (some t745) = some r := H
                              have A115 := Aside0.mk A1150
                              clear A1150
                              obtain rfl := Option.some.inj H
                              have hnb116 := NB730_706.out
                              have hnc116 := NB706_730.out
                              have hnb117 := NB730_707.out
                              have hnc117 := NB707_730.out
                              have hnb118 := NB730_715.out
                              have hnc118 := NB715_730.out
                              have hcz119_0 : wc.cell? ⟨gb730, 0, none⟩ = some (.int .i64 t724) := (blk_cell BK730.out 0).trans rfl
                              have hcz119_1 : wc.cell? ⟨gb730, 1, none⟩ = some (.int .i64 t725) := (blk_cell BK730.out 1).trans rfl
                              have hcz119_2 : wc.cell? ⟨gb730, 2, none⟩ = some (.int .u8 t726) := (blk_cell BK730.out 2).trans rfl
                              have hcz119_3 : wc.cell? ⟨gb730, 3, none⟩ = some (.slice Ao68 t727.length co68) := (blk_cell BK730.out 3).trans rfl
                              have hfz119_0 := blk_frozen BK730.out 0
                              have hfz119_1 := blk_frozen BK730.out 1
                              have hfz119_2 := blk_frozen BK730.out 2
                              have hfz119_3 := blk_frozen BK730.out 3
                              go_wp2_with (first | ((with_reducible refine gate_callee (f := 20) rfl ?_); refine gl_ (some 83) rfl rfl Try.func20 (by kernel_rfl) rfl #[.slice Ao68 t727.length co68, .int .i64 a3] rfl ?_; (with_reducible refine (region_At.calls kj88 _ _ t727 a3 t739 t740 t741 t742 _ ?side1 ?side2 A91.out).mono ?_); (case side1 => repeat (first | exact (Kd.R_reads' HO_731003.out).2.2 | (with_reducible refine Kd.C_alloc ?_ _) | (with_reducible refine Kd.C_drewN ?_ _) | (with_reducible refine Kd.C_drew ?_))); (case side2 => exact (Kd.R_reads' HO_731003.out).2.1); rintro e w120 ⟨rfl, hb⟩; refine ⟨_, rfl, ?_⟩; have n0_ := Aside0.mk (Kd.R_below (by (with_reducible repeat (first | apply Kd.R_alloc | apply Kd.R_drewN | apply Kd.R_drew)); exact HO_731003.out) hb); have n1_ := bb_ BK706 hb; have n2_ := bb_ BK707 hb; have n3_ := bb_ BK715 hb; have n4_ := bb_ BK730 hb; have n5_ := bs_ HB hb; clear HO_731003; clear BK706; clear BK707; clear BK715; clear BK730; clear HB; have HO_731003 := n0_; have BK706 := n1_; have BK707 := n2_; have BK715 := n3_; have BK730 := n4_; have HB := n5_; clear n0_ n1_ n2_ n3_ n4_ n5_; (try clear hb); (try clear hb2); (try clear hk); (try clear hi)) | ((with_reducible refine gate_dst (N := 14) rfl ?_); refine box_e 14 #[.int .i64 0, .int .i64 0, .int .u8 0] 33 ?_; intro gb743 hg w121 hbox hb; have n0_ := Aside0.mk (Kd.R_below (Kd.R_elderB (by (with_reducible repeat (first | apply Kd.R_alloc | apply Kd.R_drewN | apply Kd.R_drew)); exact HO_731003.out) gb743 (Nat.le_of_eq hg.symm)) hb); have n1_ := bb_ BK706 hb; have n2_ := bb_ BK707 hb; have n3_ := bb_ BK715 hb; have n4_ := bb_ BK730 hb; have n5_ := bs_ HB hb; have n6_ := Aside0.mk hbox; have n7_ := bg_ HB hg; have n8_ := bg_ HB hg; have n9_ := bn_ BK706 hg; have n10_ := bm_ BK706 hg; have n11_ := bn_ BK707 hg; have n12_ := bm_ BK707 hg; have n13_ := bn_ BK715 hg; have n14_ := bm_ BK715 hg; have n15_ := bn_ BK730 hg; have n16_ := bm_ BK730 hg; clear HO_731003; clear BK706; clear BK707; clear BK715; clear BK730; clear HB; have HO_731003 := n0_; have BK706 := n1_; have BK707 := n2_; have BK715 := n3_; have BK730 := n4_; have HB := n5_; have BK743 := n6_; have GW743 := n7_; have GE743 := n8_; have NB706_743 := n9_; have NB743_706 := n10_; have NB707_743 := n11_; have NB743_707 := n12_; have NB715_743 := n13_; have NB743_715 := n14_; have NB730_743 := n15_; have NB743_730 := n16_; clear n0_ n1_ n2_ n3_ n4_ n5_ n6_ n7_ n8_ n9_ n10_ n11_ n12_ n13_ n14_ n15_ n16_; clear hb hbox hg; have hnb122 := NB743_706.out; have hnc122 := NB706_743.out; have hnb123 := NB743_707.out; have hnc123 := NB707_743.out; have hnb124 := NB743_715.out; have hnc124 := NB715_743.out; have hnb125 := NB743_730.out; have hnc125 := NB730_743.out; have hcz126_0 : w121.cell? ⟨gb743, 0, none⟩ = some (.int .i64 0) := (blk_cell BK743.out 0).trans rfl; have hcz126_1 : w121.cell? ⟨gb743, 1, none⟩ = some (.int .i64 0) := (blk_cell BK743.out 1).trans rfl; have hcz126_2 : w121.cell? ⟨gb743, 2, none⟩ = some (.int .u8 0) := (blk_cell BK743.out 2).trans rfl; have hfz126_0 := blk_frozen BK743.out 0; have hfz126_1 := blk_frozen BK743.out 1; have hfz126_2 := blk_frozen BK743.out 2; have hnb127 := NB715_706.out; have hnc127 := NB706_715.out; have hnb128 := NB715_707.out; have hnc128 := NB707_715.out; have hcz129_0 : w121.cell? ⟨gb715, 0, none⟩ = some (.int .i64 t712) := (blk_cell BK715.out 0).trans rfl; have hcz129_1 : w121.cell? ⟨gb715, 1, none⟩ = some (.int .i64 t713) := (blk_cell BK715.out 1).trans rfl; have hcz129_2 : w121.cell? ⟨gb715, 2, none⟩ = some (.int .i64 t714) := (blk_cell BK715.out 2).trans rfl; have hfz129_0 := blk_frozen BK715.out 0; have hfz129_1 := blk_frozen BK715.out 1; have hfz129_2 := blk_frozen BK715.out 2) | (go_at_call 3; (with_reducible refine (salvorlaw18_PlanRuns.calls kj88  t745 _ A115.out).mono ?_); rintro e w130 ⟨rfl, hb⟩; have n0_ := Aside0.mk (Kd.R_below (by (with_reducible repeat (first | apply Kd.R_alloc | apply Kd.R_drewN | apply Kd.R_drew)); exact (Kd.R_mono (Kd.R_far (p := ⟨gb743, 2, none⟩) (Kd.R_far (p := ⟨gb743, 1, none⟩) (Kd.R_far (p := ⟨gb743, 0, none⟩) (Kd.R_mono HO_731003.out (fun k_ hk => (⟨hk, hk.2⟩ : _ ∧ k_ ≠ gb743))) (fun _ hk => hk.2) (.int .i64 t739)) (fun _ hk => hk.2) (.int .i64 t740)) (fun _ hk => hk.2) (.int .u8 t741)) (fun _ h_ => h_.1))) hb); have n1_ := Aside0.mk (blk_below (g := gb706) (o := .cells #[.int .i64 a0_0, .int .i64 a0_1, .bool a0_2] 23 (0, 0)) (bp_ BK706) hb); have n2_ := Aside0.mk (blk_below (g := gb707) (o := .cells #[.int .i64 a1_0, .int .i64 a1_1, .int .u8 a1_2, .slice A1_3 l1_3.length c1_3] 26 (0, 0)) (bp_ BK707) hb); have n3_ := Aside0.mk (blk_below (g := gb715) (o := .cells #[.int .i64 t712, .int .i64 t713, .int .i64 t714] 29 (0, 0)) (bp_ BK715) hb); have n4_ := Aside0.mk (blk_below (g := gb730) (o := .cells #[.int .i64 t724, .int .i64 t725, .int .u8 t726, .slice Ao68 t727.length co68] 26 (0, 0)) (bp_ BK730) hb); have n5_ := Aside0.mk (blk_below (g := gb743) (o := .cells #[.int .i64 t739, .int .i64 t740, .int .u8 t741] 33 (0, 0)) (bp_ BK743) hb); have n6_ := bs_ HB hb; clear HO_731003; clear BK706; clear BK707; clear BK715; clear BK730; clear BK743; clear HB; have HO_731003 := n0_; have BK706 := n1_; have BK707 := n2_; have BK715 := n3_; have BK730 := n4_; have BK743 := n5_; have HB := n6_; clear n0_ n1_ n2_ n3_ n4_ n5_ n6_; (try clear hb); (try clear hb2); (try clear hk); (try clear hi)))
                              go_ret
                              exact ⟨by first | rfl | (simp [errW_none, errW_some] <;> rfl) | (simp [*, errW_none, errW_some] <;> rfl), bh_ HB⟩
                            · rw [if_neg c114] at H
                              have c114b0 : decide ((Int.tmod (wrap64 (a2)) (wrap64 (t714 + 1))) < t714) = false := decide_eq_false c114
                              clear c114
                              by_cases c131 : t742 = true
                              · subst c131
                                have H1 : (if t741 = 43 then ((salvorlaw18_PlanRuns.f kj88).bind fun t746 => (some t746)) else (some false)) = some r := by rw [if_pos rfl] at H; exact H
                                clear H
                                have H := H1
                                clear H1
                                by_cases c132 : t741 = 43
                                · rw [if_pos c132] at H
                                  have c132b0 : (t741 == 43) = true := beq_iff_eq.mpr c132
                                  have c132b1 : (t741 != 43) = false := bne_eq_false_iff_eq.mpr c132
                                  clear c132
                                  replace H := Option.bind_eq_some_iff.mp H
                                  obtain ⟨t746, A1330, H⟩ := H
                                  replace H : (some t746) = some r := H
                                  have A133 := Aside0.mk A1330
                                  clear A1330
                                  obtain rfl := Option.some.inj H
                                  have hnb134 := NB730_706.out
                                  have hnc134 := NB706_730.out
                                  have hnb135 := NB730_707.out
                                  have hnc135 := NB707_730.out
                                  have hnb136 := NB730_715.out
                                  have hnc136 := NB715_730.out
                                  have hcz137_0 : wc.cell? ⟨gb730, 0, none⟩ = some (.int .i64 t724) := (blk_cell BK730.out 0).trans rfl
                                  have hcz137_1 : wc.cell? ⟨gb730, 1, none⟩ = some (.int .i64 t725) := (blk_cell BK730.out 1).trans rfl
                                  have hcz137_2 : wc.cell? ⟨gb730, 2, none⟩ = some (.int .u8 t726) := (blk_cell BK730.out 2).trans rfl
                                  have hcz137_3 : wc.cell? ⟨gb730, 3, none⟩ = some (.slice Ao68 t727.length co68) := (blk_cell BK730.out 3).trans rfl
                                  have hfz137_0 := blk_frozen BK730.out 0
                                  have hfz137_1 := blk_frozen BK730.out 1
                                  have hfz137_2 := blk_frozen BK730.out 2
                                  have hfz137_3 := blk_frozen BK730.out 3
                                  go_wp2_with (first | ((with_reducible refine gate_callee (f := 20) rfl ?_); refine gl_ (some 83) rfl rfl Try.func20 (by kernel_rfl) rfl #[.slice Ao68 t727.length co68, .int .i64 a3] rfl ?_; (with_reducible refine (region_At.calls kj88 _ _ t727 a3 t739 t740 t741 true _ ?side1 ?side2 A91.out).mono ?_); (case side1 => repeat (first | exact (Kd.R_reads' HO_731003.out).2.2 | (with_reducible refine Kd.C_alloc ?_ _) | (with_reducible refine Kd.C_drewN ?_ _) | (with_reducible refine Kd.C_drew ?_))); (case side2 => exact (Kd.R_reads' HO_731003.out).2.1); rintro e w138 ⟨rfl, hb⟩; refine ⟨_, rfl, ?_⟩; have n0_ := Aside0.mk (Kd.R_below (by (with_reducible repeat (first | apply Kd.R_alloc | apply Kd.R_drewN | apply Kd.R_drew)); exact HO_731003.out) hb); have n1_ := bb_ BK706 hb; have n2_ := bb_ BK707 hb; have n3_ := bb_ BK715 hb; have n4_ := bb_ BK730 hb; have n5_ := bs_ HB hb; clear HO_731003; clear BK706; clear BK707; clear BK715; clear BK730; clear HB; have HO_731003 := n0_; have BK706 := n1_; have BK707 := n2_; have BK715 := n3_; have BK730 := n4_; have HB := n5_; clear n0_ n1_ n2_ n3_ n4_ n5_; (try clear hb); (try clear hb2); (try clear hk); (try clear hi)) | ((with_reducible refine gate_dst (N := 14) rfl ?_); refine box_e 14 #[.int .i64 0, .int .i64 0, .int .u8 0] 33 ?_; intro gb743 hg w139 hbox hb; have n0_ := Aside0.mk (Kd.R_below (Kd.R_elderB (by (with_reducible repeat (first | apply Kd.R_alloc | apply Kd.R_drewN | apply Kd.R_drew)); exact HO_731003.out) gb743 (Nat.le_of_eq hg.symm)) hb); have n1_ := bb_ BK706 hb; have n2_ := bb_ BK707 hb; have n3_ := bb_ BK715 hb; have n4_ := bb_ BK730 hb; have n5_ := bs_ HB hb; have n6_ := Aside0.mk hbox; have n7_ := bg_ HB hg; have n8_ := bg_ HB hg; have n9_ := bn_ BK706 hg; have n10_ := bm_ BK706 hg; have n11_ := bn_ BK707 hg; have n12_ := bm_ BK707 hg; have n13_ := bn_ BK715 hg; have n14_ := bm_ BK715 hg; have n15_ := bn_ BK730 hg; have n16_ := bm_ BK730 hg; clear HO_731003; clear BK706; clear BK707; clear BK715; clear BK730; clear HB; have HO_731003 := n0_; have BK706 := n1_; have BK707 := n2_; have BK715 := n3_; have BK730 := n4_; have HB := n5_; have BK743 := n6_; have GW743 := n7_; have GE743 := n8_; have NB706_743 := n9_; have NB743_706 := n10_; have NB707_743 := n11_; have NB743_707 := n12_; have NB715_743 := n13_; have NB743_715 := n14_; have NB730_743 := n15_; have NB743_730 := n16_; clear n0_ n1_ n2_ n3_ n4_ n5_ n6_ n7_ n8_ n9_ n10_ n11_ n12_ n13_ n14_ n15_ n16_; clear hb hbox hg; have hnb140 := NB743_706.out; have hnc140 := NB706_743.out; have hnb141 := NB743_707.out; have hnc141 := NB707_743.out; have hnb142 := NB743_715.out; have hnc142 := NB715_743.out; have hnb143 := NB743_730.out; have hnc143 := NB730_743.out; have hcz144_0 : w139.cell? ⟨gb743, 0, none⟩ = some (.int .i64 0) := (blk_cell BK743.out 0).trans rfl; have hcz144_1 : w139.cell? ⟨gb743, 1, none⟩ = some (.int .i64 0) := (blk_cell BK743.out 1).trans rfl; have hcz144_2 : w139.cell? ⟨gb743, 2, none⟩ = some (.int .u8 0) := (blk_cell BK743.out 2).trans rfl; have hfz144_0 := blk_frozen BK743.out 0; have hfz144_1 := blk_frozen BK743.out 1; have hfz144_2 := blk_frozen BK743.out 2; have hnb145 := NB715_706.out; have hnc145 := NB706_715.out; have hnb146 := NB715_707.out; have hnc146 := NB707_715.out; have hcz147_0 : w139.cell? ⟨gb715, 0, none⟩ = some (.int .i64 t712) := (blk_cell BK715.out 0).trans rfl; have hcz147_1 : w139.cell? ⟨gb715, 1, none⟩ = some (.int .i64 t713) := (blk_cell BK715.out 1).trans rfl; have hcz147_2 : w139.cell? ⟨gb715, 2, none⟩ = some (.int .i64 t714) := (blk_cell BK715.out 2).trans rfl; have hfz147_0 := blk_frozen BK715.out 0; have hfz147_1 := blk_frozen BK715.out 1; have hfz147_2 := blk_frozen BK715.out 2) | (go_at_call 3; (with_reducible refine (salvorlaw18_PlanRuns.calls kj88  t746 _ A133.out).mono ?_); rintro e w148 ⟨rfl, hb⟩; have n0_ := Aside0.mk (Kd.R_below (by (with_reducible repeat (first | apply Kd.R_alloc | apply Kd.R_drewN | apply Kd.R_drew)); exact (Kd.R_mono (Kd.R_far (p := ⟨gb743, 2, none⟩) (Kd.R_far (p := ⟨gb743, 1, none⟩) (Kd.R_far (p := ⟨gb743, 0, none⟩) (Kd.R_mono HO_731003.out (fun k_ hk => (⟨hk, hk.2⟩ : _ ∧ k_ ≠ gb743))) (fun _ hk => hk.2) (.int .i64 t739)) (fun _ hk => hk.2) (.int .i64 t740)) (fun _ hk => hk.2) (.int .u8 t741)) (fun _ h_ => h_.1))) hb); have n1_ := Aside0.mk (blk_below (g := gb706) (o := .cells #[.int .i64 a0_0, .int .i64 a0_1, .bool a0_2] 23 (0, 0)) (bp_ BK706) hb); have n2_ := Aside0.mk (blk_below (g := gb707) (o := .cells #[.int .i64 a1_0, .int .i64 a1_1, .int .u8 a1_2, .slice A1_3 l1_3.length c1_3] 26 (0, 0)) (bp_ BK707) hb); have n3_ := Aside0.mk (blk_below (g := gb715) (o := .cells #[.int .i64 t712, .int .i64 t713, .int .i64 t714] 29 (0, 0)) (bp_ BK715) hb); have n4_ := Aside0.mk (blk_below (g := gb730) (o := .cells #[.int .i64 t724, .int .i64 t725, .int .u8 t726, .slice Ao68 t727.length co68] 26 (0, 0)) (bp_ BK730) hb); have n5_ := Aside0.mk (blk_below (g := gb743) (o := .cells #[.int .i64 t739, .int .i64 t740, .int .u8 t741] 33 (0, 0)) (bp_ BK743) hb); have n6_ := bs_ HB hb; clear HO_731003; clear BK706; clear BK707; clear BK715; clear BK730; clear BK743; clear HB; have HO_731003 := n0_; have BK706 := n1_; have BK707 := n2_; have BK715 := n3_; have BK730 := n4_; have BK743 := n5_; have HB := n6_; clear n0_ n1_ n2_ n3_ n4_ n5_ n6_; (try clear hb); (try clear hb2); (try clear hk); (try clear hi)))
                                  go_ret
                                  exact ⟨by first | rfl | (simp [errW_none, errW_some] <;> rfl) | (simp [*, errW_none, errW_some] <;> rfl), bh_ HB⟩
                                · rw [if_neg c132] at H
                                  have c132b0 : (t741 == 43) = false := beq_eq_false_iff_ne.mpr c132
                                  have c132b1 : (t741 != 43) = true := bne_iff_ne.mpr c132
                                  exact absurd ((Option.some.inj H).trans HT.out) (by simp)
                              · replace c131 := Bool.eq_false_iff.mpr c131
                                subst c131
                                have H1 : (some false) = some r := by rw [if_neg (show ¬ (false = true) by decide)] at H; exact H
                                clear H
                                have H := H1
                                clear H1
                                exact absurd ((Option.some.inj H).trans HT.out) (by simp)
                        · rw [if_neg c94] at H
                          have c94b0 : decide (a3 < (wrap64 (t713 + (Int.tmod (wrap64 (a2)) (wrap64 (t714 + 1)))))) = false := decide_eq_false c94
                          clear c94
                          replace H := Option.bind_eq_some_iff.mp H
                          obtain ⟨t747, A1490, H⟩ := H
                          replace H : (some t747) = some r := H
                          have A149 := Aside0.mk A1490
                          clear A1490
                          obtain rfl := Option.some.inj H
                          have hnb150 := NB730_706.out
                          have hnc150 := NB706_730.out
                          have hnb151 := NB730_707.out
                          have hnc151 := NB707_730.out
                          have hnb152 := NB730_715.out
                          have hnc152 := NB715_730.out
                          have hcz153_0 : wc.cell? ⟨gb730, 0, none⟩ = some (.int .i64 t724) := (blk_cell BK730.out 0).trans rfl
                          have hcz153_1 : wc.cell? ⟨gb730, 1, none⟩ = some (.int .i64 t725) := (blk_cell BK730.out 1).trans rfl
                          have hcz153_2 : wc.cell? ⟨gb730, 2, none⟩ = some (.int .u8 t726) := (blk_cell BK730.out 2).trans rfl
                          have hcz153_3 : wc.cell? ⟨gb730, 3, none⟩ = some (.slice Ao68 t727.length co68) := (blk_cell BK730.out 3).trans rfl
                          have hfz153_0 := blk_frozen BK730.out 0
                          have hfz153_1 := blk_frozen BK730.out 1
                          have hfz153_2 := blk_frozen BK730.out 2
                          have hfz153_3 := blk_frozen BK730.out 3
                          go_wp2_with (first | ((with_reducible refine gate_callee (f := 20) rfl ?_); refine gl_ (some 83) rfl rfl Try.func20 (by kernel_rfl) rfl #[.slice Ao68 t727.length co68, .int .i64 a3] rfl ?_; (with_reducible refine (region_At.calls kj88 _ _ t727 a3 t739 t740 t741 t742 _ ?side1 ?side2 A91.out).mono ?_); (case side1 => repeat (first | exact (Kd.R_reads' HO_731003.out).2.2 | (with_reducible refine Kd.C_alloc ?_ _) | (with_reducible refine Kd.C_drewN ?_ _) | (with_reducible refine Kd.C_drew ?_))); (case side2 => exact (Kd.R_reads' HO_731003.out).2.1); rintro e w154 ⟨rfl, hb⟩; refine ⟨_, rfl, ?_⟩; have n0_ := Aside0.mk (Kd.R_below (by (with_reducible repeat (first | apply Kd.R_alloc | apply Kd.R_drewN | apply Kd.R_drew)); exact HO_731003.out) hb); have n1_ := bb_ BK706 hb; have n2_ := bb_ BK707 hb; have n3_ := bb_ BK715 hb; have n4_ := bb_ BK730 hb; have n5_ := bs_ HB hb; clear HO_731003; clear BK706; clear BK707; clear BK715; clear BK730; clear HB; have HO_731003 := n0_; have BK706 := n1_; have BK707 := n2_; have BK715 := n3_; have BK730 := n4_; have HB := n5_; clear n0_ n1_ n2_ n3_ n4_ n5_; (try clear hb); (try clear hb2); (try clear hk); (try clear hi)) | ((with_reducible refine gate_dst (N := 14) rfl ?_); refine box_e 14 #[.int .i64 0, .int .i64 0, .int .u8 0] 33 ?_; intro gb743 hg w155 hbox hb; have n0_ := Aside0.mk (Kd.R_below (Kd.R_elderB (by (with_reducible repeat (first | apply Kd.R_alloc | apply Kd.R_drewN | apply Kd.R_drew)); exact HO_731003.out) gb743 (Nat.le_of_eq hg.symm)) hb); have n1_ := bb_ BK706 hb; have n2_ := bb_ BK707 hb; have n3_ := bb_ BK715 hb; have n4_ := bb_ BK730 hb; have n5_ := bs_ HB hb; have n6_ := Aside0.mk hbox; have n7_ := bg_ HB hg; have n8_ := bg_ HB hg; have n9_ := bn_ BK706 hg; have n10_ := bm_ BK706 hg; have n11_ := bn_ BK707 hg; have n12_ := bm_ BK707 hg; have n13_ := bn_ BK715 hg; have n14_ := bm_ BK715 hg; have n15_ := bn_ BK730 hg; have n16_ := bm_ BK730 hg; clear HO_731003; clear BK706; clear BK707; clear BK715; clear BK730; clear HB; have HO_731003 := n0_; have BK706 := n1_; have BK707 := n2_; have BK715 := n3_; have BK730 := n4_; have HB := n5_; have BK743 := n6_; have GW743 := n7_; have GE743 := n8_; have NB706_743 := n9_; have NB743_706 := n10_; have NB707_743 := n11_; have NB743_707 := n12_; have NB715_743 := n13_; have NB743_715 := n14_; have NB730_743 := n15_; have NB743_730 := n16_; clear n0_ n1_ n2_ n3_ n4_ n5_ n6_ n7_ n8_ n9_ n10_ n11_ n12_ n13_ n14_ n15_ n16_; clear hb hbox hg; have hnb156 := NB743_706.out; have hnc156 := NB706_743.out; have hnb157 := NB743_707.out; have hnc157 := NB707_743.out; have hnb158 := NB743_715.out; have hnc158 := NB715_743.out; have hnb159 := NB743_730.out; have hnc159 := NB730_743.out; have hcz160_0 : w155.cell? ⟨gb743, 0, none⟩ = some (.int .i64 0) := (blk_cell BK743.out 0).trans rfl; have hcz160_1 : w155.cell? ⟨gb743, 1, none⟩ = some (.int .i64 0) := (blk_cell BK743.out 1).trans rfl; have hcz160_2 : w155.cell? ⟨gb743, 2, none⟩ = some (.int .u8 0) := (blk_cell BK743.out 2).trans rfl; have hfz160_0 := blk_frozen BK743.out 0; have hfz160_1 := blk_frozen BK743.out 1; have hfz160_2 := blk_frozen BK743.out 2; have hnb161 := NB715_706.out; have hnc161 := NB706_715.out; have hnb162 := NB715_707.out; have hnc162 := NB707_715.out; have hcz163_0 : w155.cell? ⟨gb715, 0, none⟩ = some (.int .i64 t712) := (blk_cell BK715.out 0).trans rfl; have hcz163_1 : w155.cell? ⟨gb715, 1, none⟩ = some (.int .i64 t713) := (blk_cell BK715.out 1).trans rfl; have hcz163_2 : w155.cell? ⟨gb715, 2, none⟩ = some (.int .i64 t714) := (blk_cell BK715.out 2).trans rfl; have hfz163_0 := blk_frozen BK715.out 0; have hfz163_1 := blk_frozen BK715.out 1; have hfz163_2 := blk_frozen BK715.out 2) | (go_at_call 3; (with_reducible refine (salvorlaw18_PlanRuns.calls kj88  t747 _ A149.out).mono ?_); rintro e w164 ⟨rfl, hb⟩; have n0_ := Aside0.mk (Kd.R_below (by (with_reducible repeat (first | apply Kd.R_alloc | apply Kd.R_drewN | apply Kd.R_drew)); exact (Kd.R_mono (Kd.R_far (p := ⟨gb743, 2, none⟩) (Kd.R_far (p := ⟨gb743, 1, none⟩) (Kd.R_far (p := ⟨gb743, 0, none⟩) (Kd.R_mono HO_731003.out (fun k_ hk => (⟨hk, hk.2⟩ : _ ∧ k_ ≠ gb743))) (fun _ hk => hk.2) (.int .i64 t739)) (fun _ hk => hk.2) (.int .i64 t740)) (fun _ hk => hk.2) (.int .u8 t741)) (fun _ h_ => h_.1))) hb); have n1_ := Aside0.mk (blk_below (g := gb706) (o := .cells #[.int .i64 a0_0, .int .i64 a0_1, .bool a0_2] 23 (0, 0)) (bp_ BK706) hb); have n2_ := Aside0.mk (blk_below (g := gb707) (o := .cells #[.int .i64 a1_0, .int .i64 a1_1, .int .u8 a1_2, .slice A1_3 l1_3.length c1_3] 26 (0, 0)) (bp_ BK707) hb); have n3_ := Aside0.mk (blk_below (g := gb715) (o := .cells #[.int .i64 t712, .int .i64 t713, .int .i64 t714] 29 (0, 0)) (bp_ BK715) hb); have n4_ := Aside0.mk (blk_below (g := gb730) (o := .cells #[.int .i64 t724, .int .i64 t725, .int .u8 t726, .slice Ao68 t727.length co68] 26 (0, 0)) (bp_ BK730) hb); have n5_ := Aside0.mk (blk_below (g := gb743) (o := .cells #[.int .i64 t739, .int .i64 t740, .int .u8 t741] 33 (0, 0)) (bp_ BK743) hb); have n6_ := bs_ HB hb; clear HO_731003; clear BK706; clear BK707; clear BK715; clear BK730; clear BK743; clear HB; have HO_731003 := n0_; have BK706 := n1_; have BK707 := n2_; have BK715 := n3_; have BK730 := n4_; have BK743 := n5_; have HB := n6_; clear n0_ n1_ n2_ n3_ n4_ n5_ n6_; (try clear hb); (try clear hb2); (try clear hk); (try clear hi)))
                          go_ret
                          exact ⟨by first | rfl | (simp [errW_none, errW_some] <;> rfl) | (simp [*, errW_none, errW_some] <;> rfl), bh_ HB⟩
                      · rw [if_neg c93] at H
                        have c93b0 : ((wrap64 (t734 - t738)) == x13_88) = false := beq_eq_false_iff_ne.mpr c93
                        have c93b1 : ((wrap64 (t734 - t738)) != x13_88) = true := bne_iff_ne.mpr c93
                        exact absurd ((Option.some.inj H).trans HT.out) (by simp)
                    · rw [if_neg c92] at H
                      have c92b0 : decide (t713 ≤ a3) = false := decide_eq_false c92
                      clear c92
                      by_cases c165 : (wrap64 (t734 - t738)) = x13_88
                      · rw [if_pos c165] at H
                        have c165b0 : ((wrap64 (t734 - t738)) == x13_88) = true := beq_iff_eq.mpr c165
                        have c165b1 : ((wrap64 (t734 - t738)) != x13_88) = false := bne_eq_false_iff_eq.mpr c165
                        clear c165
                        replace H := Option.bind_eq_some_iff.mp H
                        obtain ⟨t748, A1660, H⟩ := H
                        replace H : (some t748) = some r := H
                        have A166 := Aside0.mk A1660
                        clear A1660
                        obtain rfl := Option.some.inj H
                        have hnb167 := NB730_706.out
                        have hnc167 := NB706_730.out
                        have hnb168 := NB730_707.out
                        have hnc168 := NB707_730.out
                        have hnb169 := NB730_715.out
                        have hnc169 := NB715_730.out
                        have hcz170_0 : wc.cell? ⟨gb730, 0, none⟩ = some (.int .i64 t724) := (blk_cell BK730.out 0).trans rfl
                        have hcz170_1 : wc.cell? ⟨gb730, 1, none⟩ = some (.int .i64 t725) := (blk_cell BK730.out 1).trans rfl
                        have hcz170_2 : wc.cell? ⟨gb730, 2, none⟩ = some (.int .u8 t726) := (blk_cell BK730.out 2).trans rfl
                        have hcz170_3 : wc.cell? ⟨gb730, 3, none⟩ = some (.slice Ao68 t727.length co68) := (blk_cell BK730.out 3).trans rfl
                        have hfz170_0 := blk_frozen BK730.out 0
                        have hfz170_1 := blk_frozen BK730.out 1
                        have hfz170_2 := blk_frozen BK730.out 2
                        have hfz170_3 := blk_frozen BK730.out 3
                        go_wp2_with (first | ((with_reducible refine gate_callee (f := 20) rfl ?_); refine gl_ (some 83) rfl rfl Try.func20 (by kernel_rfl) rfl #[.slice Ao68 t727.length co68, .int .i64 a3] rfl ?_; (with_reducible refine (region_At.calls kj88 _ _ t727 a3 t739 t740 t741 t742 _ ?side1 ?side2 A91.out).mono ?_); (case side1 => repeat (first | exact (Kd.R_reads' HO_731003.out).2.2 | (with_reducible refine Kd.C_alloc ?_ _) | (with_reducible refine Kd.C_drewN ?_ _) | (with_reducible refine Kd.C_drew ?_))); (case side2 => exact (Kd.R_reads' HO_731003.out).2.1); rintro e w171 ⟨rfl, hb⟩; refine ⟨_, rfl, ?_⟩; have n0_ := Aside0.mk (Kd.R_below (by (with_reducible repeat (first | apply Kd.R_alloc | apply Kd.R_drewN | apply Kd.R_drew)); exact HO_731003.out) hb); have n1_ := bb_ BK706 hb; have n2_ := bb_ BK707 hb; have n3_ := bb_ BK715 hb; have n4_ := bb_ BK730 hb; have n5_ := bs_ HB hb; clear HO_731003; clear BK706; clear BK707; clear BK715; clear BK730; clear HB; have HO_731003 := n0_; have BK706 := n1_; have BK707 := n2_; have BK715 := n3_; have BK730 := n4_; have HB := n5_; clear n0_ n1_ n2_ n3_ n4_ n5_; (try clear hb); (try clear hb2); (try clear hk); (try clear hi)) | ((with_reducible refine gate_dst (N := 14) rfl ?_); refine box_e 14 #[.int .i64 0, .int .i64 0, .int .u8 0] 33 ?_; intro gb743 hg w172 hbox hb; have n0_ := Aside0.mk (Kd.R_below (Kd.R_elderB (by (with_reducible repeat (first | apply Kd.R_alloc | apply Kd.R_drewN | apply Kd.R_drew)); exact HO_731003.out) gb743 (Nat.le_of_eq hg.symm)) hb); have n1_ := bb_ BK706 hb; have n2_ := bb_ BK707 hb; have n3_ := bb_ BK715 hb; have n4_ := bb_ BK730 hb; have n5_ := bs_ HB hb; have n6_ := Aside0.mk hbox; have n7_ := bg_ HB hg; have n8_ := bg_ HB hg; have n9_ := bn_ BK706 hg; have n10_ := bm_ BK706 hg; have n11_ := bn_ BK707 hg; have n12_ := bm_ BK707 hg; have n13_ := bn_ BK715 hg; have n14_ := bm_ BK715 hg; have n15_ := bn_ BK730 hg; have n16_ := bm_ BK730 hg; clear HO_731003; clear BK706; clear BK707; clear BK715; clear BK730; clear HB; have HO_731003 := n0_; have BK706 := n1_; have BK707 := n2_; have BK715 := n3_; have BK730 := n4_; have HB := n5_; have BK743 := n6_; have GW743 := n7_; have GE743 := n8_; have NB706_743 := n9_; have NB743_706 := n10_; have NB707_743 := n11_; have NB743_707 := n12_; have NB715_743 := n13_; have NB743_715 := n14_; have NB730_743 := n15_; have NB743_730 := n16_; clear n0_ n1_ n2_ n3_ n4_ n5_ n6_ n7_ n8_ n9_ n10_ n11_ n12_ n13_ n14_ n15_ n16_; clear hb hbox hg; have hnb173 := NB743_706.out; have hnc173 := NB706_743.out; have hnb174 := NB743_707.out; have hnc174 := NB707_743.out; have hnb175 := NB743_715.out; have hnc175 := NB715_743.out; have hnb176 := NB743_730.out; have hnc176 := NB730_743.out; have hcz177_0 : w172.cell? ⟨gb743, 0, none⟩ = some (.int .i64 0) := (blk_cell BK743.out 0).trans rfl; have hcz177_1 : w172.cell? ⟨gb743, 1, none⟩ = some (.int .i64 0) := (blk_cell BK743.out 1).trans rfl; have hcz177_2 : w172.cell? ⟨gb743, 2, none⟩ = some (.int .u8 0) := (blk_cell BK743.out 2).trans rfl; have hfz177_0 := blk_frozen BK743.out 0; have hfz177_1 := blk_frozen BK743.out 1; have hfz177_2 := blk_frozen BK743.out 2; have hnb178 := NB715_706.out; have hnc178 := NB706_715.out; have hnb179 := NB715_707.out; have hnc179 := NB707_715.out; have hcz180_0 : w172.cell? ⟨gb715, 0, none⟩ = some (.int .i64 t712) := (blk_cell BK715.out 0).trans rfl; have hcz180_1 : w172.cell? ⟨gb715, 1, none⟩ = some (.int .i64 t713) := (blk_cell BK715.out 1).trans rfl; have hcz180_2 : w172.cell? ⟨gb715, 2, none⟩ = some (.int .i64 t714) := (blk_cell BK715.out 2).trans rfl; have hfz180_0 := blk_frozen BK715.out 0; have hfz180_1 := blk_frozen BK715.out 1; have hfz180_2 := blk_frozen BK715.out 2) | (go_at_call 3; (with_reducible refine (salvorlaw18_PlanRuns.calls kj88  t748 _ A166.out).mono ?_); rintro e w181 ⟨rfl, hb⟩; have n0_ := Aside0.mk (Kd.R_below (by (with_reducible repeat (first | apply Kd.R_alloc | apply Kd.R_drewN | apply Kd.R_drew)); exact (Kd.R_mono (Kd.R_far (p := ⟨gb743, 2, none⟩) (Kd.R_far (p := ⟨gb743, 1, none⟩) (Kd.R_far (p := ⟨gb743, 0, none⟩) (Kd.R_mono HO_731003.out (fun k_ hk => (⟨hk, hk.2⟩ : _ ∧ k_ ≠ gb743))) (fun _ hk => hk.2) (.int .i64 t739)) (fun _ hk => hk.2) (.int .i64 t740)) (fun _ hk => hk.2) (.int .u8 t741)) (fun _ h_ => h_.1))) hb); have n1_ := Aside0.mk (blk_below (g := gb706) (o := .cells #[.int .i64 a0_0, .int .i64 a0_1, .bool a0_2] 23 (0, 0)) (bp_ BK706) hb); have n2_ := Aside0.mk (blk_below (g := gb707) (o := .cells #[.int .i64 a1_0, .int .i64 a1_1, .int .u8 a1_2, .slice A1_3 l1_3.length c1_3] 26 (0, 0)) (bp_ BK707) hb); have n3_ := Aside0.mk (blk_below (g := gb715) (o := .cells #[.int .i64 t712, .int .i64 t713, .int .i64 t714] 29 (0, 0)) (bp_ BK715) hb); have n4_ := Aside0.mk (blk_below (g := gb730) (o := .cells #[.int .i64 t724, .int .i64 t725, .int .u8 t726, .slice Ao68 t727.length co68] 26 (0, 0)) (bp_ BK730) hb); have n5_ := Aside0.mk (blk_below (g := gb743) (o := .cells #[.int .i64 t739, .int .i64 t740, .int .u8 t741] 33 (0, 0)) (bp_ BK743) hb); have n6_ := bs_ HB hb; clear HO_731003; clear BK706; clear BK707; clear BK715; clear BK730; clear BK743; clear HB; have HO_731003 := n0_; have BK706 := n1_; have BK707 := n2_; have BK715 := n3_; have BK730 := n4_; have BK743 := n5_; have HB := n6_; clear n0_ n1_ n2_ n3_ n4_ n5_ n6_; (try clear hb); (try clear hb2); (try clear hk); (try clear hi)))
                        go_ret
                        exact ⟨by first | rfl | (simp [errW_none, errW_some] <;> rfl) | (simp [*, errW_none, errW_some] <;> rfl), bh_ HB⟩
                      · rw [if_neg c165] at H
                        have c165b0 : ((wrap64 (t734 - t738)) == x13_88) = false := beq_eq_false_iff_ne.mpr c165
                        have c165b1 : ((wrap64 (t734 - t738)) != x13_88) = true := bne_iff_ne.mpr c165
                        exact absurd ((Option.some.inj H).trans HT.out) (by simp)

end Go.Proofs.Ytnoilinjlelpaaa.P
