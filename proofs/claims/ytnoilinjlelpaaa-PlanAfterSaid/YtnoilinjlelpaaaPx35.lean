/- Laid by a program of this session's own (wip/wprint.py, over the kit's print.py): functions of the given program as plain Lean functions, and that the program's calls come to their answers. -/
import Derived.Test.YtnoilinjlelpaaaPx0
import Derived.Test.YtnoilinjlelpaaaPx18
import Derived.Test.YtnoilinjlelpaaaPx19
import Derived.Test.YtnoilinjlelpaaaPx20
import Derived.Test.YtnoilinjlelpaaaPx34
namespace Go.Proofs.Ytnoilinjlelpaaa.P
open Go.RowKit Go.Proofs.YtnoilinjlelpaaaW.PrintWords Go.Proofs.YtnoilinjlelpaaaW.PrintLast Go.Proofs.YtnoilinjlelpaaaW.PrintMore
attribute [local go_sem] max2_int min2_int max_two min_two max_three min_three max_four min_four   -- for this text's walks alone
set_option linter.unusedVariables false
set_option linter.unusedSimpArgs false

/-! ### salvorlaw18_PlanAfter: function 4 -/
def salvorlaw18_PlanAfter.f (k : Nat) (a0_0 : Int) (a0_1 : Int) (a0_2 : Bool) (a1_0 : Int) (a1_1 : Int) (a1_2 : Int) (l1_3 : List (S33)) (a2 : Int) : Option (Bool) := (salvorlaw16_Few.f l1_3).bind fun t514 => (if t514 = true then ((plan_After.f k a0_0 a0_1 a0_2 a1_0 a1_1 a1_2 l1_3 a2).bind fun bt516 => ((salvorref16_After.f k a0_0 a0_1 a0_2 a1_0 a1_1 a1_2 l1_3 a2).bind fun bt522 => ((salvorref16_SameMap.f k bt516.1 bt516.2.1 bt516.2.2.1 bt516.2.2.2 bt522.1 bt522.2.1 bt522.2.2.1 bt522.2.2.2).bind fun t528 => (if t528 = true then ((salvorlaw18_PlanRuns.f k).bind fun t529 => (some t529)) else (some false))))) else ((salvorlaw18_PlanRuns.f k).bind fun t515 => (some t515)))
theorem salvorlaw18_PlanAfter.mono : ∀ a0 a1 a2 a3 a4 a5 a6 a7 k, LeO (salvorlaw18_PlanAfter.f k a0 a1 a2 a3 a4 a5 a6 a7) (salvorlaw18_PlanAfter.f (k + 1) a0 a1 a2 a3 a4 a5 a6 a7) := by
 intro a0 a1 a2 a3 a4 a5 a6 a7 k
 unfold salvorlaw18_PlanAfter.f
 repeat' first
   | (with_reducible exact plan_After.mono _ _ _ _ _ _ _ _ _)
   | (with_reducible exact salvorlaw18_PlanRuns.mono _)
   | (with_reducible exact salvorref16_After.mono _ _ _ _ _ _ _ _ _)
   | (with_reducible exact salvorref16_SameMap.mono _ _ _ _ _ _ _ _ _)
   | (with_reducible exact LeO.refl _)
   | (with_reducible exact LeO.none _)
   | (with_reducible refine LeO.ite ?_ ?_)
   | (with_reducible refine LeO.bind ?_ (fun _ => ?_))
   | exact plan_After.mono _ _ _ _ _ _ _ _ _
   | exact salvorlaw18_PlanRuns.mono _
   | exact salvorref16_After.mono _ _ _ _ _ _ _ _ _
   | exact salvorref16_SameMap.mono _ _ _ _ _ _ _ _ _
   | exact LeO.none _
   | refine LeO.ite ?_ ?_
   | refine LeO.bind ?_ (fun _ => ?_)
def salvorlaw18_PlanAfter.T3 : Bool × List (List Nat × List Nat) := (true, [([], []), ([], []), ([], []), ([0, 1, 2], [0, 1, 2]), ([], []), ([], []), ([], []), ([4, 5, 6, 3], [4, 5, 6]), ([3, 7, 7], [3, 7]), ([8, 8], [8]), ([9, 9], [9]), ([9, 10], [9, 10]), ([11, 10, 0, 1, 2, 3, 4, 5, 6, 7, 8, 9, 10, 11], [11])])
def salvorlaw18_PlanAfter.B3 : List Nat := [0, 0, 0, 7, 0, 0, 0, 127, 255, 511, 1023, 2047, 4095]
theorem salvorlaw18_PlanAfter.tab3 : rtab .any (opsOf Try.f4 3) = salvorlaw18_PlanAfter.T3 := by kernel_rfl
theorem salvorlaw18_PlanAfter.bits3 : waitsOk salvorlaw18_PlanAfter.T3.2 salvorlaw18_PlanAfter.B3 = true := by kernel_rfl
set_option maxHeartbeats 8000000 in
set_option maxRecDepth 100000 in
theorem salvorlaw18_PlanAfter.calls (k : Nat) (a0_0 : Int) (a0_1 : Int) (a0_2 : Bool) (a1_0 : Int) (a1_1 : Int) (a1_2 : Int) (A1_3 : Option Addr) (c1_3 : Nat) (l1_3 : List (S33)) (a2 : Int) (r : Bool) (w : World) (hr1_3 : Kd.C k33 w A1_3 l1_3.length l1_3) (hc1_3 : l1_3.length ≤ c1_3) (h : salvorlaw18_PlanAfter.f k a0_0 a0_1 a0_2 a1_0 a1_1 a1_2 l1_3 a2 = some r) (hrt : r = true) :
  Calls Try.prog 4 #[.agg #[.int .i64 a0_0, .int .i64 a0_1, .bool a0_2], .agg #[.int .i64 a1_0, .int .i64 a1_1, .int .u8 a1_2, .slice A1_3 l1_3.length c1_3], .int .i64 a2] w fun e w' => e = .returned (.bool r) ∧ Below w.heap.size w w' := by
 have HT := Aside0.mk hrt
 clear hrt
 have hu23 := Try.underlying23
 have hu26 := Try.underlying26
 have HR1_3 := Aside0.mk hr1_3
 have HC1_3 := Aside0.mk hc1_3
 clear hr1_3 hc1_3
 have HB := Aside0.mk (Below.refl w.heap.size w)
 have H : ((salvorlaw16_Few.f l1_3).bind fun t514 => (if t514 = true then ((plan_After.f k a0_0 a0_1 a0_2 a1_0 a1_1 a1_2 l1_3 a2).bind fun bt516 => ((salvorref16_After.f k a0_0 a0_1 a0_2 a1_0 a1_1 a1_2 l1_3 a2).bind fun bt522 => ((salvorref16_SameMap.f k bt516.1 bt516.2.1 bt516.2.2.1 bt516.2.2.2 bt522.1 bt522.2.1 bt522.2.2.1 bt522.2.2.2).bind fun t528 => (if t528 = true then ((salvorlaw18_PlanRuns.f k).bind fun t529 => (some t529)) else (some false))))) else ((salvorlaw18_PlanRuns.f k).bind fun t515 => (some t515)))) = some r := h
 clear h
 replace H := Option.bind_eq_some_iff.mp H
 obtain ⟨t514, A40, H⟩ := H
 replace H : (if t514 = true then ((plan_After.f k a0_0 a0_1 a0_2 a1_0 a1_1 a1_2 l1_3 a2).bind fun bt516 => ((salvorref16_After.f k a0_0 a0_1 a0_2 a1_0 a1_1 a1_2 l1_3 a2).bind fun bt522 => ((salvorref16_SameMap.f k bt516.1 bt516.2.1 bt516.2.2.1 bt516.2.2.2 bt522.1 bt522.2.1 bt522.2.2.1 bt522.2.2.2).bind fun t528 => (if t528 = true then ((salvorlaw18_PlanRuns.f k).bind fun t529 => (some t529)) else (some false))))) else ((salvorlaw18_PlanRuns.f k).bind fun t515 => (some t515))) = some r := H
 have A4 := Aside0.mk A40
 clear A40
 by_cases c5 : t514 = true
 ·subst c5
  have H1 : ((plan_After.f k a0_0 a0_1 a0_2 a1_0 a1_1 a1_2 l1_3 a2).bind fun bt516 => ((salvorref16_After.f k a0_0 a0_1 a0_2 a1_0 a1_1 a1_2 l1_3 a2).bind fun bt522 => ((salvorref16_SameMap.f k bt516.1 bt516.2.1 bt516.2.2.1 bt516.2.2.2 bt522.1 bt522.2.1 bt522.2.2.1 bt522.2.2.2).bind fun t528 => (if t528 = true then ((salvorlaw18_PlanRuns.f k).bind fun t529 => (some t529)) else (some false))))) = some r := by rw [if_pos rfl] at H; exact H
  clear H
  have H := H1
  clear H1
  replace H := Option.bind_eq_some_iff.mp H
  obtain ⟨⟨t516, t517, t518, t519⟩, A60, H⟩ := H
  replace H : ((salvorref16_After.f k a0_0 a0_1 a0_2 a1_0 a1_1 a1_2 l1_3 a2).bind fun bt522 => ((salvorref16_SameMap.f k t516 t517 t518 t519 bt522.1 bt522.2.1 bt522.2.2.1 bt522.2.2.2).bind fun t528 => (if t528 = true then ((salvorlaw18_PlanRuns.f k).bind fun t529 => (some t529)) else (some false)))) = some r := H
  have A6 := Aside0.mk A60
  clear A60
  replace H := Option.bind_eq_some_iff.mp H
  obtain ⟨⟨t522, t523, t524, t525⟩, A70, H⟩ := H
  replace H : ((salvorref16_SameMap.f k t516 t517 t518 t519 t522 t523 t524 t525).bind fun t528 => (if t528 = true then ((salvorlaw18_PlanRuns.f k).bind fun t529 => (some t529)) else (some false))) = some r := H
  have A7 := Aside0.mk A70
  clear A70
  replace H := Option.bind_eq_some_iff.mp H
  obtain ⟨t528, A80, H⟩ := H
  replace H : (if t528 = true then ((salvorlaw18_PlanRuns.f k).bind fun t529 => (some t529)) else (some false)) = some r := H
  have A8 := Aside0.mk A80
  clear A80
  by_cases c9 : t528 = true
  ·subst c9
   have H1 : ((salvorlaw18_PlanRuns.f k).bind fun t529 => (some t529)) = some r := by rw [if_pos rfl] at H; exact H
   clear H
   have H := H1
   clear H1
   replace H := Option.bind_eq_some_iff.mp H
   obtain ⟨t529, A100, H⟩ := H
   replace H : (some t529) = some r := H
   have A10 := Aside0.mk A100
   clear A100
   obtain rfl := Option.some.inj H
   go_enter Try.func4, Try.ntmps4
   try go_wp2_with (first | ((with_reducible refine gate_dst (N := 3) rfl ?_); refine box_e 3 #[.int .i64 a0_0, .int .i64 a0_1, .bool a0_2] 23 ?_; intro gb512 hg w11 hbox hb; have BK512 := Aside0.mk hbox; have GW512 := bg_ HB hg; have GE512 := bg_ HB hg; replace HB := bs_ HB hb; clear hb hbox hg) | ((with_reducible refine gate_dst (N := 4) rfl ?_); refine box_e 4 #[.int .i64 a1_0, .int .i64 a1_1, .int .u8 a1_2, .slice A1_3 l1_3.length c1_3] 26 ?_; intro gb513 hg w12 hbox hb; have BK513 := Aside0.mk hbox; have GW513 := bg_ HB hg; have GE513 := bg_ HB hg; have NB512_513 := bn_ BK512 hg; have NB513_512 := bm_ BK512 hg; replace BK512 := bb_ BK512 hb; replace HB := bs_ HB hb; clear hb hbox hg; have hnb13 := NB513_512.out; have hnc13 := NB512_513.out; obtain ⟨hcz14_0, hcz14_1, hcz14_2, hcz14_3, hfz14_0, hfz14_1, hfz14_2, hfz14_3⟩ := c4_ BK513) | ((with_reducible refine gate_callee (f := 15) rfl ?_); refine gl_ (some 9) rfl rfl Try.func15 (by kernel_rfl) rfl #[.slice A1_3 l1_3.length c1_3] rfl ?_; (with_reducible refine (salvorlaw16_Few.calls _ _ l1_3 true _ ?side1 ?side2 A4.out).mono ?_); (case side1 => exact cb_ HR1_3 HB); (case side2 => exact HC1_3.out); rintro e w' ⟨rfl, ⟨nd, rfl⟩⟩; refine ⟨_, rfl, ?_⟩))
   (try (rw [drewN_self w12]; generalize hq_ : World.drewN w12 _ = w12; have n0_ : Aside0 (w12.heap[gb512]? = some (.cells #[.int .i64 a0_0, .int .i64 a0_1, .bool a0_2] 23 (0, 0))) := ⟨by rw [← hq_]; exact (bq_ BK512)⟩; have n1_ : Aside0 (w12.heap[gb513]? = some (.cells #[.int .i64 a1_0, .int .i64 a1_1, .int .u8 a1_2, .slice A1_3 l1_3.length c1_3] 26 (0, 0))) := ⟨by rw [← hq_]; exact (bq_ BK513)⟩; have n2_ : Aside0 (Below w.heap.size w w12) := ⟨by rw [← hq_]; exact (bh_ HB)⟩; clear BK512 BK513 HB hq_; have BK512 := n0_; have BK513 := n1_; have HB := n2_; clear n0_ n1_ n2_))
   replace BK512 := Aside0.mk (blk_drew BK512.out)
   replace BK513 := Aside0.mk (blk_drew BK513.out)
   replace HB := Aside0.mk (below_drew1 HB.out)
   refine start_ (n := 13) (S := fun w' => w'.cell? ⟨gb512, 0, none⟩ = some (.int .i64 a0_0) ∧ w'.cell? ⟨gb512, 1, none⟩ = some (.int .i64 a0_1) ∧ w'.cell? ⟨gb512, 2, none⟩ = some (.bool a0_2) ∧ w'.cell? ⟨gb513, 0, none⟩ = some (.int .i64 a1_0) ∧ w'.cell? ⟨gb513, 1, none⟩ = some (.int .i64 a1_1) ∧ w'.cell? ⟨gb513, 2, none⟩ = some (.int .u8 a1_2) ∧ w'.cell? ⟨gb513, 3, none⟩ = some (.slice A1_3 l1_3.length c1_3)) (ds := []) #[false, false, false, false, false, false, false, false, false, false, false, false, false] (by kernel_rfl) rfl rfl (a3_ (k3_ BK512) (k4_ BK513)) (fun hHeld => ?_); refine with_tabW salvorlaw18_PlanAfter.tab3 salvorlaw18_PlanAfter.bits3 (fun HT_ HW_ => ?_)
   generalize w12.drew = w15 at BK512 BK513 HB hHeld ⊢
   refine pu_ 2 14 (lb_ 13 4) rfl rfl (ao_ HT_) ?_
   refine pu_ 6 18 (lb_ 13 68) rfl rfl (ao_ HT_) ?_
   refine tk_ 0 12 (lb_ 13 69) rfl rfl (take_ofW HT_.out HW_.out (by kernel_rfl)) hHeld ?_
   refine tk_ 1 13 (lb_ 13 71) rfl rfl (take_ofW HT_.out HW_.out (by kernel_rfl)) hHeld ?_
   refine tk_ 4 16 (lb_ 13 87) rfl rfl (take_ofW HT_.out HW_.out (by kernel_rfl)) hHeld ?_
   refine tk_ 5 17 (lb_ 13 119) rfl rfl (take_ofW HT_.out HW_.out (by kernel_rfl)) hHeld ?_
   refine one_ (i := 3) (N := some 15) #[true, true, true, true, true, true, true, false, false, false, false, false, false] rfl rfl (one_of HT_.out (by kernel_rfl)) (by decide) (fun K hK => ?_)
   refine gq_ Try.func13 (by kernel_rfl) rfl #[.agg #[.int .i64 a0_0, .int .i64 a0_1, .bool a0_2], .agg #[.int .i64 a1_0, .int .i64 a1_1, .int .u8 a1_2, .slice A1_3 l1_3.length c1_3], .int .i64 a2] (by rfl) rfl rfl ?_
   with_reducible refine (plan_After.calls k a0_0 a0_1 a0_2 a1_0 a1_1 a1_2 _ _ l1_3 a2 t516 t517 t518 t519 _ ?side1 ?side2 A6.out).mono ?_
   (case side1 => exact cb_ HR1_3 HB)
   (case side2 => exact HC1_3.out)
   rintro e w16 ⟨v520, rfl, ho0, hb⟩
   refine ⟨_, rfl, ?_⟩
   have HO521 := Aside0.mk (Kd.R_lower ho0 (below_size (bh_ HB)))
   replace BK512 := bb_ BK512 hb
   replace BK513 := bb_ BK513 hb
   replace HB := bs_ HB hb
   (try clear hb)
   (try clear hb2)
   (try clear hk)
   (try clear hi)
   (try clear ho0)
   refine hK.out _ _ (a3_ (k3_ BK512) (k4_ BK513)) (fun hHeld => ?_)
   clear hK K
   refine nm_ 15 ?_
   refine one_ (i := 7) (N := some 19) #[true, true, true, true, true, true, true, true, false, false, false, false, false] rfl rfl (one_of HT_.out (by kernel_rfl)) (by decide) (fun K hK => ?_)
   refine gq_ Try.func17 (by kernel_rfl) rfl #[.agg #[.int .i64 a0_0, .int .i64 a0_1, .bool a0_2], .agg #[.int .i64 a1_0, .int .i64 a1_1, .int .u8 a1_2, .slice A1_3 l1_3.length c1_3], .int .i64 a2] (by rfl) rfl rfl ?_
   with_reducible refine (salvorref16_After.calls k a0_0 a0_1 a0_2 a1_0 a1_1 a1_2 _ _ l1_3 a2 t522 t523 t524 t525 _ ?side1 ?side2 A7.out).mono ?_
   (case side1 => exact cb_ HR1_3 HB)
   (case side2 => exact HC1_3.out)
   rintro e w17 ⟨v526, rfl, ho0, hb⟩
   refine ⟨_, rfl, ?_⟩
   have n0_ := Aside0.mk (Kd.R_elder' (by (with_reducible repeat (first | apply Kd.R_alloc | apply Kd.R_drewN | apply Kd.R_drew)); exact HO521.out) (Kd.R_base ho0) hb)
   have n1_ := Aside0.mk (Kd.R_lower (Kd.R_new' ho0 (Kd.R_lt (by (with_reducible repeat (first | apply Kd.R_alloc | apply Kd.R_drewN | apply Kd.R_drew)); exact HO521.out))) (below_size (bh_ HB)))
   have n2_ := bb_ BK512 hb
   have n3_ := bb_ BK513 hb
   have n4_ := bs_ HB hb
   clear HO521
   clear BK512
   clear BK513
   clear HB
   have HO521 := n0_
   have HO527 := n1_
   have BK512 := n2_
   have BK513 := n3_
   have HB := n4_
   clear n0_ n1_ n2_ n3_ n4_
   (try clear hb)
   (try clear hb2)
   (try clear hk)
   (try clear hi)
   (try clear ho0)
   obtain ⟨Ao18, co18, eo18⟩ := Kd.R_slice HO521.out
   (first | subst eo18 | (injection eo18 with f1_ f2_ f3_; have f4_ := f1_.symm; have f5_ := f3_.symm; clear f1_ f2_ f3_; subst f4_; subst f5_))
   obtain ⟨Ao19, co19, eo19⟩ := Kd.R_slice HO527.out
   (first | subst eo19 | (injection eo19 with f1_ f2_ f3_; have f4_ := f1_.symm; have f5_ := f3_.symm; clear f1_ f2_ f3_; subst f4_; subst f5_))
   refine hK.out _ _ (a3_ (k3_ BK512) (k4_ BK513)) (fun hHeld => ?_)
   clear hK K
   refine nm_ 19 ?_
   refine one_ (i := 8) (N := some 20) #[true, true, true, true, true, true, true, true, true, false, false, false, false] rfl rfl (one_of HT_.out (by kernel_rfl)) (by decide) (fun K hK => ?_)
   refine gq_ Try.func16 (by kernel_rfl) rfl #[.agg #[.int .i64 t516, .int .i64 t517, .int .u8 t518, .slice Ao18 t519.length co18], .agg #[.int .i64 t522, .int .i64 t523, .int .u8 t524, .slice Ao19 t525.length co19]] (by rfl) rfl rfl ?_
   with_reducible refine (salvorref16_SameMap.calls k t516 t517 t518 _ _ t519 t522 t523 t524 _ _ t525 true _ ?side1 ?side2 ?side3 ?side4 A8.out).mono ?_
   (case side1 => repeat (first | exact (Kd.R_reads' HO521.out).2.2 | (with_reducible refine Kd.C_alloc ?_ _) | (with_reducible refine Kd.C_drewN ?_ _) | (with_reducible refine Kd.C_drew ?_)))
   (case side2 => exact (Kd.R_reads' HO521.out).2.1)
   (case side3 => repeat (first | exact (Kd.R_reads' HO527.out).2.2 | (with_reducible refine Kd.C_alloc ?_ _) | (with_reducible refine Kd.C_drewN ?_ _) | (with_reducible refine Kd.C_drew ?_)))
   (case side4 => exact (Kd.R_reads' HO527.out).2.1)
   rintro e w20 ⟨rfl, hb⟩
   refine ⟨_, rfl, ?_⟩
   have n0_ := Aside0.mk (Kd.R_below (by (with_reducible repeat (first | apply Kd.R_alloc | apply Kd.R_drewN | apply Kd.R_drew)); exact HO521.out) hb)
   have n1_ := Aside0.mk (Kd.R_below (by (with_reducible repeat (first | apply Kd.R_alloc | apply Kd.R_drewN | apply Kd.R_drew)); exact HO527.out) hb)
   have n2_ := bb_ BK512 hb
   have n3_ := bb_ BK513 hb
   have n4_ := bs_ HB hb
   clear HO521
   clear HO527
   clear BK512
   clear BK513
   clear HB
   have HO521 := n0_
   have HO527 := n1_
   have BK512 := n2_
   have BK513 := n3_
   have HB := n4_
   clear n0_ n1_ n2_ n3_ n4_
   (try clear hb)
   refine hK.out _ _ (a3_ (k3_ BK512) (k4_ BK513)) (fun hHeld => ?_)
   clear hK K
   refine nm_ 20 ?_
   refine pu_ 9 21 (lb_ 13 1023) rfl rfl (ao_ HT_) ?_
   refine one_ (i := 10) (N := some 22) #[true, true, true, true, true, true, true, true, true, true, true, false, false] rfl rfl (one_of HT_.out (by kernel_rfl)) (by decide) (fun K hK => ?_)
   refine gq_ Try.func3 (by kernel_rfl) rfl #[] (by rfl) rfl rfl ?_
   with_reducible refine (salvorlaw18_PlanRuns.calls k  t529 _ A10.out).mono ?_
   rintro e w21 ⟨rfl, hb⟩
   refine ⟨_, rfl, ?_⟩
   have n0_ := Aside0.mk (Kd.R_below (by (with_reducible repeat (first | apply Kd.R_alloc | apply Kd.R_drewN | apply Kd.R_drew)); exact HO521.out) hb)
   have n1_ := Aside0.mk (Kd.R_below (by (with_reducible repeat (first | apply Kd.R_alloc | apply Kd.R_drewN | apply Kd.R_drew)); exact HO527.out) hb)
   have n2_ := bb_ BK512 hb
   have n3_ := bb_ BK513 hb
   have n4_ := bs_ HB hb
   clear HO521
   clear HO527
   clear BK512
   clear BK513
   clear HB
   have HO521 := n0_
   have HO527 := n1_
   have BK512 := n2_
   have BK513 := n3_
   have HB := n4_
   clear n0_ n1_ n2_ n3_ n4_
   (try clear hb)
   refine hK.out _ _ (a3_ (k3_ BK512) (k4_ BK513)) (fun hHeld => ?_)
   clear hK K
   refine nm_ 22 ?_
   refine pu_ 11 23 (lb_ 13 4095) rfl rfl (ao_ HT_) ?_
   refine pu_ 12 6 (lb_ 13 8191) rfl rfl (ao_ HT_) ?_
   refine done_ (done_of HT_.out (by kernel_rfl)) ?_
   try go_wp2
   go_ret
   exact ⟨by first | rfl | (simp [errW_none, errW_some] <;> rfl) | (simp [*, errW_none, errW_some] <;> rfl), bh_ HB⟩
  ·replace c9 := Bool.eq_false_iff.mpr c9
   subst c9
   have H1 : (some false) = some r := by rw [if_neg (show ¬ (false = true) by decide)] at H; exact H
   clear H
   have H := H1
   clear H1
   exact absurd ((Option.some.inj H).trans HT.out) (by simp)
 ·replace c5 := Bool.eq_false_iff.mpr c5
  subst c5
  have H1 : ((salvorlaw18_PlanRuns.f k).bind fun t515 => (some t515)) = some r := by rw [if_neg (show ¬ (false = true) by decide)] at H; exact H
  clear H
  have H := H1
  clear H1
  replace H := Option.bind_eq_some_iff.mp H
  obtain ⟨t515, A220, H⟩ := H
  replace H : (some t515) = some r := H
  have A22 := Aside0.mk A220
  clear A220
  obtain rfl := Option.some.inj H
  go_enter Try.func4, Try.ntmps4
  go_wp2_with (first | ((with_reducible refine gate_dst (N := 3) rfl ?_); refine box_e 3 #[.int .i64 a0_0, .int .i64 a0_1, .bool a0_2] 23 ?_; intro gb512 hg w23 hbox hb; have BK512 := Aside0.mk hbox; have GW512 := bg_ HB hg; have GE512 := bg_ HB hg; replace HB := bs_ HB hb; clear hb hbox hg) | ((with_reducible refine gate_dst (N := 4) rfl ?_); refine box_e 4 #[.int .i64 a1_0, .int .i64 a1_1, .int .u8 a1_2, .slice A1_3 l1_3.length c1_3] 26 ?_; intro gb513 hg w24 hbox hb; have BK513 := Aside0.mk hbox; have GW513 := bg_ HB hg; have GE513 := bg_ HB hg; have NB512_513 := bn_ BK512 hg; have NB513_512 := bm_ BK512 hg; replace BK512 := bb_ BK512 hb; replace HB := bs_ HB hb; clear hb hbox hg; have hnb25 := NB513_512.out; have hnc25 := NB512_513.out; obtain ⟨hcz26_0, hcz26_1, hcz26_2, hcz26_3, hfz26_0, hfz26_1, hfz26_2, hfz26_3⟩ := c4_ BK513) | ((with_reducible refine gate_callee (f := 15) rfl ?_); refine gl_ (some 9) rfl rfl Try.func15 (by kernel_rfl) rfl #[.slice A1_3 l1_3.length c1_3] rfl ?_; (with_reducible refine (salvorlaw16_Few.calls _ _ l1_3 false _ ?side1 ?side2 A4.out).mono ?_); (case side1 => exact cb_ HR1_3 HB); (case side2 => exact HC1_3.out); rintro e w' ⟨rfl, ⟨nd, rfl⟩⟩; refine ⟨_, rfl, ?_⟩) | ((with_reducible refine gate_callee (f := 3) rfl ?_); refine gl_ (some 11) rfl rfl Try.func3 (by kernel_rfl) rfl #[] rfl ?_; (with_reducible refine (salvorlaw18_PlanRuns.calls k  t515 _ A22.out).mono ?_); rintro e w27 ⟨rfl, hb⟩; refine ⟨_, rfl, ?_⟩; replace BK512 := bb_ BK512 hb; replace BK513 := bb_ BK513 hb; replace HB := bs_ HB hb; (try clear hb)))
  go_ret
  exact ⟨by first | rfl | (simp [errW_none, errW_some] <;> rfl) | (simp [*, errW_none, errW_some] <;> rfl), bh_ HB⟩

end Go.Proofs.Ytnoilinjlelpaaa.P
