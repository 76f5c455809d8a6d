/- Laid by a program of this session's own (wip/wprint.py, over the kit's print.py): functions of the given program as plain Lean functions, and that the program's calls come to their answers. -/
import Derived.Test.YtnoilinjlelpaaaPx0
import Derived.Test.YtnoilinjlelpaaaPx1
import Derived.Test.YtnoilinjlelpaaaPx2
import Derived.Test.YtnoilinjlelpaaaPx3
import Derived.Test.YtnoilinjlelpaaaPx12
import Derived.Test.YtnoilinjlelpaaaPx18
namespace Go.Proofs.Ytnoilinjlelpaaa.P
open Go.RowKit Go.Proofs.YtnoilinjlelpaaaW.PrintWords Go.Proofs.YtnoilinjlelpaaaW.PrintLast Go.Proofs.YtnoilinjlelpaaaW.PrintMore
attribute [local go_sem] max2_int min2_int max_two min_two max_three min_three max_four min_four   -- for this text's walks alone
set_option linter.unusedVariables false
set_option linter.unusedSimpArgs false

attribute [local go_sem high] eqA29 eqA33
/-! ### salvorlaw18_PlanRuns: function 3 -/
def salvorlaw18_PlanRuns.g (k : Nat)  : Option (Bool) := (plan_Start.f 24).bind fun bt287 => ((plan_Next.f k 2 0 false bt287.1 bt287.2.1 bt287.2.2.1 bt287.2.2.2).bind fun bt294 => ((plan_After.f k 2 0 false bt287.1 bt287.2.1 bt287.2.2.1 bt287.2.2.2 8).bind fun bt298 => (if (bt294.1 == 1 && (bt294.2.1 == 0 && (bt294.2.2 == 16))) = true then (if (bt298.2.2.2.length : Int) = 3 then (if 0 < (bt298.2.2.2.length : Int) then (if (((rd_T33 bt298.2.2.2 0).f0) == 0 && (((rd_T33 bt298.2.2.2 0).f1) == 8 && (((rd_T33 bt298.2.2.2 0).f2) == 43))) = true then (if 1 < (bt298.2.2.2.length : Int) then (if (((rd_T33 bt298.2.2.2 1).f0) == 8 && (((rd_T33 bt298.2.2.2 1).f1) == 8 && (((rd_T33 bt298.2.2.2 1).f2) == 42))) = true then ((plan_May.f 2 0 false).bind fun t307 => (if t307 = true then ((plan_May.f 0 0 false).bind fun t308 => (some (!t308))) else (some false))) else (some false)) else (none)) else (some false)) else (none)) else (some false)) else (some false))))
theorem salvorlaw18_PlanRuns.gmono : ∀ k, LeO (salvorlaw18_PlanRuns.g k ) (salvorlaw18_PlanRuns.g (k + 1) ) := by
 intro  k
 unfold salvorlaw18_PlanRuns.g
 repeat' first
   | (with_reducible exact plan_After.mono _ _ _ _ _ _ _ _ _)
   | (with_reducible exact plan_Next.mono _ _ _ _ _ _ _ _)
   | (with_reducible exact LeO.refl _)
   | (with_reducible exact LeO.none _)
   | (with_reducible refine LeO.ite ?_ ?_)
   | (with_reducible refine LeO.bind ?_ (fun _ => ?_))
   | exact plan_After.mono _ _ _ _ _ _ _ _ _
   | exact plan_Next.mono _ _ _ _ _ _ _ _
   | exact LeO.none _
   | refine LeO.ite ?_ ?_
   | refine LeO.bind ?_ (fun _ => ?_)
set_option maxHeartbeats 8000000 in
set_option maxRecDepth 100000 in
theorem salvorlaw18_PlanRuns.callsT (k : Nat)  (r : Bool) (w : World) (h : salvorlaw18_PlanRuns.g k  = some r) (hrt : r = true) :
  Calls Try.prog 3 #[] w fun e w' => e = .returned (.bool r) ∧ Below w.heap.size w w' := by
 have HT := Aside0.mk hrt
 clear hrt
 have hu23 := Try.underlying23
 have hu26 := Try.underlying26
 have hu29 := Try.underlying29
 have hu33 := Try.underlying33
 have HB := Aside0.mk (Below.refl w.heap.size w)
 have H : ((plan_Start.f 24).bind fun bt287 => ((plan_Next.f k 2 0 false bt287.1 bt287.2.1 bt287.2.2.1 bt287.2.2.2).bind fun bt294 => ((plan_After.f k 2 0 false bt287.1 bt287.2.1 bt287.2.2.1 bt287.2.2.2 8).bind fun bt298 => (if (bt294.1 == 1 && (bt294.2.1 == 0 && (bt294.2.2 == 16))) = true then (if (bt298.2.2.2.length : Int) = 3 then (if 0 < (bt298.2.2.2.length : Int) then (if (((rd_T33 bt298.2.2.2 0).f0) == 0 && (((rd_T33 bt298.2.2.2 0).f1) == 8 && (((rd_T33 bt298.2.2.2 0).f2) == 43))) = true then (if 1 < (bt298.2.2.2.length : Int) then (if (((rd_T33 bt298.2.2.2 1).f0) == 8 && (((rd_T33 bt298.2.2.2 1).f1) == 8 && (((rd_T33 bt298.2.2.2 1).f2) == 42))) = true then ((plan_May.f 2 0 false).bind fun t307 => (if t307 = true then ((plan_May.f 0 0 false).bind fun t308 => (some (!t308))) else (some false))) else (some false)) else (none)) else (some false)) else (none)) else (some false)) else (some false))))) = some r := h
 clear h
 replace H := Option.bind_eq_some_iff.mp H
 obtain ⟨⟨t287, t288, t289, t290⟩, A10, H⟩ := H
 replace H : ((plan_Next.f k 2 0 false t287 t288 t289 t290).bind fun bt294 => ((plan_After.f k 2 0 false t287 t288 t289 t290 8).bind fun bt298 => (if (bt294.1 == 1 && (bt294.2.1 == 0 && (bt294.2.2 == 16))) = true then (if (bt298.2.2.2.length : Int) = 3 then (if 0 < (bt298.2.2.2.length : Int) then (if (((rd_T33 bt298.2.2.2 0).f0) == 0 && (((rd_T33 bt298.2.2.2 0).f1) == 8 && (((rd_T33 bt298.2.2.2 0).f2) == 43))) = true then (if 1 < (bt298.2.2.2.length : Int) then (if (((rd_T33 bt298.2.2.2 1).f0) == 8 && (((rd_T33 bt298.2.2.2 1).f1) == 8 && (((rd_T33 bt298.2.2.2 1).f2) == 42))) = true then ((plan_May.f 2 0 false).bind fun t307 => (if t307 = true then ((plan_May.f 0 0 false).bind fun t308 => (some (!t308))) else (some false))) else (some false)) else (none)) else (some false)) else (none)) else (some false)) else (some false)))) = some r := H
 have A1 := Aside0.mk A10
 clear A10
 replace H := Option.bind_eq_some_iff.mp H
 obtain ⟨⟨t294, t295, t296⟩, A20, H⟩ := H
 replace H : ((plan_After.f k 2 0 false t287 t288 t289 t290 8).bind fun bt298 => (if (t294 == 1 && (t295 == 0 && (t296 == 16))) = true then (if (bt298.2.2.2.length : Int) = 3 then (if 0 < (bt298.2.2.2.length : Int) then (if (((rd_T33 bt298.2.2.2 0).f0) == 0 && (((rd_T33 bt298.2.2.2 0).f1) == 8 && (((rd_T33 bt298.2.2.2 0).f2) == 43))) = true then (if 1 < (bt298.2.2.2.length : Int) then (if (((rd_T33 bt298.2.2.2 1).f0) == 8 && (((rd_T33 bt298.2.2.2 1).f1) == 8 && (((rd_T33 bt298.2.2.2 1).f2) == 42))) = true then ((plan_May.f 2 0 false).bind fun t307 => (if t307 = true then ((plan_May.f 0 0 false).bind fun t308 => (some (!t308))) else (some false))) else (some false)) else (none)) else (some false)) else (none)) else (some false)) else (some false))) = some r := H
 have A2 := Aside0.mk A20
 clear A20
 replace H := Option.bind_eq_some_iff.mp H
 obtain ⟨⟨t298, t299, t300, t301⟩, A30, H⟩ := H
 replace H : (if (t294 == 1 && (t295 == 0 && (t296 == 16))) = true then (if (t301.length : Int) = 3 then (if 0 < (t301.length : Int) then (if (((rd_T33 t301 0).f0) == 0 && (((rd_T33 t301 0).f1) == 8 && (((rd_T33 t301 0).f2) == 43))) = true then (if 1 < (t301.length : Int) then (if (((rd_T33 t301 1).f0) == 8 && (((rd_T33 t301 1).f1) == 8 && (((rd_T33 t301 1).f2) == 42))) = true then ((plan_May.f 2 0 false).bind fun t307 => (if t307 = true then ((plan_May.f 0 0 false).bind fun t308 => (some (!t308))) else (some false))) else (some false)) else (none)) else (some false)) else (none)) else (some false)) else (some false)) = some r := H
 have A3 := Aside0.mk A30
 clear A30
 by_cases c4 : (t294 == 1 && (t295 == 0 && (t296 == 16))) = true
 ·rw [if_pos c4] at H
  have c4b0 : (t294 == 1 && (t295 == 0 && (t296 == 16))) = true := c4
  (try (have c4b1 : decide (t294 = 1 && (t295 == 0 && (t296 == 16))) = true := by simpa using c4))
  (try (have c4b2 : (t294 == 1 && (t295 == 0 && (t296 == 16))) = true := by simpa using c4))
  clear c4
  by_cases c5 : (t301.length : Int) = 3
  ·rw [if_pos c5] at H
   have c5b0 : ((t301.length : Int) == 3) = true := beq_iff_eq.mpr c5
   have c5b1 : ((t301.length : Int) != 3) = false := bne_eq_false_iff_eq.mpr c5
   clear c5
   by_cases c6 : 0 < (t301.length : Int)
   ·rw [if_pos c6] at H
    have c6b0 : decide (0 < (t301.length : Int)) = true := decide_eq_true c6
    have c6b1 : decide (0 < t301.length) = true := decide_eq_true (by omega)
    clear c6
    by_cases c7 : (((rd_T33 t301 0).f0) == 0 && (((rd_T33 t301 0).f1) == 8 && (((rd_T33 t301 0).f2) == 43))) = true
    ·rw [if_pos c7] at H
     have c7b0 : (((rd_T33 t301 0).f0) == 0 && (((rd_T33 t301 0).f1) == 8 && (((rd_T33 t301 0).f2) == 43))) = true := c7
     (try (have c7b1 : decide (((rd_T33 t301 0).f0) = 0 && (((rd_T33 t301 0).f1) == 8 && (((rd_T33 t301 0).f2) == 43))) = true := by simpa using c7))
     (try (have c7b2 : (((rd_T33 t301 0).f0) == 0 && (((rd_T33 t301 0).f1) == 8 && (((rd_T33 t301 0).f2) == 43))) = true := by simpa using c7))
     clear c7
     by_cases c8 : 1 < (t301.length : Int)
     ·rw [if_pos c8] at H
      have c8b0 : decide (1 < (t301.length : Int)) = true := decide_eq_true c8
      have c8b1 : decide (1 < t301.length) = true := decide_eq_true (by omega)
      clear c8
      by_cases c9 : (((rd_T33 t301 1).f0) == 8 && (((rd_T33 t301 1).f1) == 8 && (((rd_T33 t301 1).f2) == 42))) = true
      ·rw [if_pos c9] at H
       have c9b0 : (((rd_T33 t301 1).f0) == 8 && (((rd_T33 t301 1).f1) == 8 && (((rd_T33 t301 1).f2) == 42))) = true := c9
       (try (have c9b1 : decide (((rd_T33 t301 1).f0) = 8 && (((rd_T33 t301 1).f1) == 8 && (((rd_T33 t301 1).f2) == 42))) = true := by simpa using c9))
       (try (have c9b2 : (((rd_T33 t301 1).f0) == 8 && (((rd_T33 t301 1).f1) == 8 && (((rd_T33 t301 1).f2) == 42))) = true := by simpa using c9))
       clear c9
       replace H := Option.bind_eq_some_iff.mp H
       obtain ⟨t307, A100, H⟩ := H
       replace H : (if t307 = true then ((plan_May.f 0 0 false).bind fun t308 => (some (!t308))) else (some false)) = some r := H
       have A10 := Aside0.mk A100
       clear A100
       by_cases c11 : t307 = true
       ·subst c11
        have H1 : ((plan_May.f 0 0 false).bind fun t308 => (some (!t308))) = some r := by rw [if_pos rfl] at H; exact H
        clear H
        have H := H1
        clear H1
        replace H := Option.bind_eq_some_iff.mp H
        obtain ⟨t308, A120, H⟩ := H
        replace H : (some (!t308)) = some r := H
        have A12 := Aside0.mk A120
        clear A120
        obtain rfl := Option.some.inj H
        go_enter Try.func3, Try.ntmps3
        go_wp2_with (first | ((with_reducible refine gate_dst (N := 1) rfl ?_); (try (refine gate_guard (by rfl) ?_; dsimp only)); refine box_e 1 #[.int .i64 0, .int .i64 0, .bool false] 23 ?_; intro gb286 hg w13 hbox hb; have BK286 := Aside0.mk hbox; have GW286 := bg_ HB hg; have GE286 := bg_ HB hg; replace HB := bs_ HB hb; clear hb hbox hg; obtain ⟨hcz14_0, hcz14_1, hcz14_2, hfz14_0, hfz14_1, hfz14_2⟩ := c3_ BK286) | ((with_reducible refine gate_callee (f := 11) rfl ?_); refine gl_ (some 6) rfl rfl Try.func11 (by kernel_rfl) rfl #[.int .i64 24] rfl ?_; (with_reducible refine (plan_Start.calls 24 t287 t288 t289 t290 _ A1.out).mono ?_); rintro e w15 ⟨v291, rfl, ho0, hb⟩; refine ⟨_, rfl, ?_⟩; have HO292 := Aside0.mk (Kd.R_lower ho0 (below_size (bh_ HB))); replace BK286 := Aside0.mk (blk_below (g := gb286) (o := .cells #[.int .i64 2, .int .i64 0, .bool false] 23 (0, 0)) (bp_ BK286) hb); replace HB := bs_ HB hb; (try clear hb); (try clear hb2); (try clear hk); (try clear hi); (try clear ho0)) | ((with_reducible refine gate_dst (N := 2) rfl ?_); (try (refine gate_guard (by rfl) ?_; dsimp only)); refine box_e 2 #[.int .i64 0, .int .i64 0, .int .u8 0, .slice none 0 0] 26 ?_; intro gb293 hg w16 hbox hb; have n0_ := Aside0.mk (Kd.R_below (by (with_reducible repeat (first | apply Kd.R_alloc | apply Kd.R_drewN | apply Kd.R_drew)); exact HO292.out) hb); have n1_ := bb_ BK286 hb; have n2_ := bs_ HB hb; have n3_ := Aside0.mk hbox; have n4_ := bg_ HB hg; have n5_ := bg_ HB hg; have n6_ := bn_ BK286 hg; have n7_ := bm_ BK286 hg; clear HO292; clear BK286; clear HB; have HO292 := n0_; have BK286 := n1_; have HB := n2_; have BK293 := n3_; have GW293 := n4_; have GE293 := n5_; have NB286_293 := n6_; have NB293_286 := n7_; clear n0_ n1_ n2_ n3_ n4_ n5_ n6_ n7_; clear hb hbox hg; have hnb17 := NB293_286.out; have hnc17 := NB286_293.out; obtain ⟨hcz18_0, hcz18_1, hcz18_2, hcz18_3, hfz18_0, hfz18_1, hfz18_2, hfz18_3⟩ := c4_ BK293; obtain ⟨Ao19, co19, eo19⟩ := Kd.R_slice HO292.out; subst eo19; obtain ⟨hcz20_0, hcz20_1, hcz20_2, hfz20_0, hfz20_1, hfz20_2⟩ := c3_ BK286) | ((with_reducible refine gate_callee (f := 12) rfl ?_); refine gl_ (some 9) rfl rfl Try.func12 (by kernel_rfl) rfl #[.agg #[.int .i64 2, .int .i64 0, .bool false], .agg #[.int .i64 t287, .int .i64 t288, .int .u8 t289, .slice Ao19 t290.length co19]] rfl ?_; (with_reducible refine (plan_Next.calls k 2 0 false t287 t288 t289 _ _ t290 t294 t295 t296 _ ?side1 ?side2 A2.out).mono ?_); (case side1 => refine (Kd.R_reads' (e := 33) (base := w.heap.size) (ok := fun k_ => True) (n := t290.length) (c := co19) ?_).2.2; exact (by (with_reducible repeat (first | apply Kd.R_alloc | apply Kd.R_drewN | apply Kd.R_drew)); exact (Kd.R_mono (Kd.R_far (p := ⟨gb293, 3, none⟩) (Kd.R_far (p := ⟨gb293, 2, none⟩) (Kd.R_far (p := ⟨gb293, 1, none⟩) (Kd.R_far (p := ⟨gb293, 0, none⟩) (Kd.R_types HO292.out BK293.out (by decide)) (fun _ hk => hk.2) (.int .i64 t287)) (fun _ hk => hk.2) (.int .i64 t288)) (fun _ hk => hk.2) (.int .u8 t289)) (fun _ hk => hk.2) (.slice Ao19 t290.length co19)) (fun _ h_ => h_.1)))); (case side2 => exact (Kd.R_reads' HO292.out).2.1); rintro e w21 ⟨rfl, hb⟩; refine ⟨_, rfl, ?_⟩; have n0_ := Aside0.mk (Kd.R_below (by (with_reducible repeat (first | apply Kd.R_alloc | apply Kd.R_drewN | apply Kd.R_drew)); exact (Kd.R_mono (Kd.R_far (p := ⟨gb293, 3, none⟩) (Kd.R_far (p := ⟨gb293, 2, none⟩) (Kd.R_far (p := ⟨gb293, 1, none⟩) (Kd.R_far (p := ⟨gb293, 0, none⟩) (Kd.R_types HO292.out BK293.out (by decide)) (fun _ hk => hk.2) (.int .i64 t287)) (fun _ hk => hk.2) (.int .i64 t288)) (fun _ hk => hk.2) (.int .u8 t289)) (fun _ hk => hk.2) (.slice Ao19 t290.length co19)) (fun _ h_ => h_.1))) hb); have n1_ := Aside0.mk (blk_below (g := gb286) (o := .cells #[.int .i64 2, .int .i64 0, .bool false] 23 (0, 0)) (bp_ BK286) hb); have n2_ := Aside0.mk (blk_below (g := gb293) (o := .cells #[.int .i64 t287, .int .i64 t288, .int .u8 t289, .slice Ao19 t290.length co19] 26 (0, 0)) (bp_ BK293) hb); have n3_ := bs_ HB hb; clear HO292; clear BK286; clear BK293; clear HB; have HO292 := n0_; have BK286 := n1_; have BK293 := n2_; have HB := n3_; clear n0_ n1_ n2_ n3_; (try clear hb)) | ((with_reducible refine gate_dst (N := 3) rfl ?_); (try (refine gate_guard (by rfl) ?_; dsimp only)); refine box_e 3 #[.int .i64 0, .int .i64 0, .int .i64 0] 29 ?_; intro gb297 hg w22 hbox hb; have n0_ := Aside0.mk (Kd.R_below (by (with_reducible repeat (first | apply Kd.R_alloc | apply Kd.R_drewN | apply Kd.R_drew)); exact HO292.out) hb); have n1_ := bb_ BK286 hb; have n2_ := bb_ BK293 hb; have n3_ := bs_ HB hb; have n4_ := Aside0.mk hbox; have n5_ := bg_ HB hg; have n6_ := bg_ HB hg; have n7_ := bn_ BK286 hg; have n8_ := bm_ BK286 hg; have n9_ := bn_ BK293 hg; have n10_ := bm_ BK293 hg; clear HO292; clear BK286; clear BK293; clear HB; have HO292 := n0_; have BK286 := n1_; have BK293 := n2_; have HB := n3_; have BK297 := n4_; have GW297 := n5_; have GE297 := n6_; have NB286_297 := n7_; have NB297_286 := n8_; have NB293_297 := n9_; have NB297_293 := n10_; clear n0_ n1_ n2_ n3_ n4_ n5_ n6_ n7_ n8_ n9_ n10_; clear hb hbox hg; have hnb23 := NB297_286.out; have hnc23 := NB286_297.out; have hnb24 := NB297_293.out; have hnc24 := NB293_297.out; obtain ⟨hcz25_0, hcz25_1, hcz25_2, hfz25_0, hfz25_1, hfz25_2⟩ := c3_ BK297; obtain ⟨hcz26_0, hcz26_1, hcz26_2, hfz26_0, hfz26_1, hfz26_2⟩ := c3_ BK286; obtain ⟨hcz27_0, hcz27_1, hcz27_2, hcz27_3, hfz27_0, hfz27_1, hfz27_2, hfz27_3⟩ := c4_ BK293) | ((with_reducible refine gate_callee (f := 13) rfl ?_); refine gl_ (some 12) rfl rfl Try.func13 (by kernel_rfl) rfl #[.agg #[.int .i64 2, .int .i64 0, .bool false], .agg #[.int .i64 t287, .int .i64 t288, .int .u8 t289, .slice Ao19 t290.length co19], .int .i64 8] rfl ?_; (with_reducible refine (plan_After.calls k 2 0 false t287 t288 t289 _ _ t290 8 t298 t299 t300 t301 _ ?side1 ?side2 A3.out).mono ?_); (case side1 => refine (Kd.R_reads' (e := 33) (base := w.heap.size) (ok := fun k_ => True) (n := t290.length) (c := co19) ?_).2.2; exact (by (with_reducible repeat (first | apply Kd.R_alloc | apply Kd.R_drewN | apply Kd.R_drew)); exact (Kd.R_mono (Kd.R_far (p := ⟨gb297, 2, none⟩) (Kd.R_far (p := ⟨gb297, 1, none⟩) (Kd.R_far (p := ⟨gb297, 0, none⟩) (Kd.R_types HO292.out BK297.out (by decide)) (fun _ hk => hk.2) (.int .i64 t294)) (fun _ hk => hk.2) (.int .i64 t295)) (fun _ hk => hk.2) (.int .i64 t296)) (fun _ h_ => h_.1)))); (case side2 => exact (Kd.R_reads' HO292.out).2.1); rintro e w28 ⟨v302, rfl, ho0, hb⟩; refine ⟨_, rfl, ?_⟩; have n0_ := Aside0.mk (Kd.R_elder' (by (with_reducible repeat (first | apply Kd.R_alloc | apply Kd.R_drewN | apply Kd.R_drew)); exact (Kd.R_mono (Kd.R_far (p := ⟨gb297, 2, none⟩) (Kd.R_far (p := ⟨gb297, 1, none⟩) (Kd.R_far (p := ⟨gb297, 0, none⟩) (Kd.R_types HO292.out BK297.out (by decide)) (fun _ hk => hk.2) (.int .i64 t294)) (fun _ hk => hk.2) (.int .i64 t295)) (fun _ hk => hk.2) (.int .i64 t296)) (fun _ h_ => h_.1))) (Kd.R_base ho0) hb); have n1_ := Aside0.mk (Kd.R_lower (Kd.R_new' ho0 (Kd.R_lt (by (with_reducible repeat (first | apply Kd.R_alloc | apply Kd.R_drewN | apply Kd.R_drew)); exact (Kd.R_mono (Kd.R_far (p := ⟨gb297, 2, none⟩) (Kd.R_far (p := ⟨gb297, 1, none⟩) (Kd.R_far (p := ⟨gb297, 0, none⟩) (Kd.R_types HO292.out BK297.out (by decide)) (fun _ hk => hk.2) (.int .i64 t294)) (fun _ hk => hk.2) (.int .i64 t295)) (fun _ hk => hk.2) (.int .i64 t296)) (fun _ h_ => h_.1))))) (below_size (bh_ HB))); have n2_ := Aside0.mk (blk_below (g := gb286) (o := .cells #[.int .i64 2, .int .i64 0, .bool false] 23 (0, 0)) (bp_ BK286) hb); have n3_ := Aside0.mk (blk_below (g := gb293) (o := .cells #[.int .i64 t287, .int .i64 t288, .int .u8 t289, .slice Ao19 t290.length co19] 26 (0, 0)) (bp_ BK293) hb); have n4_ := Aside0.mk (blk_below (g := gb297) (o := .cells #[.int .i64 t294, .int .i64 t295, .int .i64 t296] 29 (0, 0)) (bp_ BK297) hb); have n5_ := bs_ HB hb; clear HO292; clear BK286; clear BK293; clear BK297; clear HB; have HO292 := n0_; have HO303 := n1_; have BK286 := n2_; have BK293 := n3_; have BK297 := n4_; have HB := n5_; clear n0_ n1_ n2_ n3_ n4_ n5_; (try clear hb); (try clear hb2); (try clear hk); (try clear hi); (try clear ho0)) | ((with_reducible refine gate_dst (N := 4) rfl ?_); (try (refine gate_guard (by rfl) ?_; dsimp only)); refine box_e 4 #[.int .i64 0, .int .i64 0, .int .u8 0, .slice none 0 0] 26 ?_; intro gb304 hg w29 hbox hb; have n0_ := Aside0.mk (Kd.R_below (by (with_reducible repeat (first | apply Kd.R_alloc | apply Kd.R_drewN | apply Kd.R_drew)); exact HO292.out) hb); have n1_ := Aside0.mk (Kd.R_below (by (with_reducible repeat (first | apply Kd.R_alloc | apply Kd.R_drewN | apply Kd.R_drew)); exact HO303.out) hb); have n2_ := bb_ BK286 hb; have n3_ := bb_ BK293 hb; have n4_ := bb_ BK297 hb; have n5_ := bs_ HB hb; have n6_ := Aside0.mk hbox; have n7_ := bg_ HB hg; have n8_ := bg_ HB hg; have n9_ := bn_ BK286 hg; have n10_ := bm_ BK286 hg; have n11_ := bn_ BK293 hg; have n12_ := bm_ BK293 hg; have n13_ := bn_ BK297 hg; have n14_ := bm_ BK297 hg; clear HO292; clear HO303; clear BK286; clear BK293; clear BK297; clear HB; have HO292 := n0_; have HO303 := n1_; have BK286 := n2_; have BK293 := n3_; have BK297 := n4_; have HB := n5_; have BK304 := n6_; have GW304 := n7_; have GE304 := n8_; have NB286_304 := n9_; have NB304_286 := n10_; have NB293_304 := n11_; have NB304_293 := n12_; have NB297_304 := n13_; have NB304_297 := n14_; clear n0_ n1_ n2_ n3_ n4_ n5_ n6_ n7_ n8_ n9_ n10_ n11_ n12_ n13_ n14_; clear hb hbox hg; have hnb30 := NB304_286.out; have hnc30 := NB286_304.out; have hnb31 := NB304_293.out; have hnc31 := NB293_304.out; have hnb32 := NB304_297.out; have hnc32 := NB297_304.out; obtain ⟨hcz33_0, hcz33_1, hcz33_2, hcz33_3, hfz33_0, hfz33_1, hfz33_2, hfz33_3⟩ := c4_ BK304; obtain ⟨Ao34, co34, eo34⟩ := Kd.R_slice HO303.out; subst eo34; obtain ⟨hcz35_0, hcz35_1, hcz35_2, hfz35_0, hfz35_1, hfz35_2⟩ := c3_ BK297; have p305 : 0 ≤ (0 : Int) := (by omega); have q305 : 0 < (t301.length : Int) := of_decide_eq_true (by first | (with_reducible assumption) | assumption); obtain ⟨ad305, e305, hx305_0, hx305_1, hx305_2⟩ := at_T33 (Kd.R_reads' HO303.out).2.2 0 p305 q305; cases e305; have qi305 : (0 < t301.length) = True := eq_true (by omega); (try rw [show ((0 : Int)).toNat = 0 from rfl] at hx305_0); (try rw [show 0 * 3 = 0 from rfl] at hx305_0); (try rw [Addr.add_zero'] at hx305_0); (try rw [show ((0 : Int)).toNat = 0 from rfl] at hx305_1); (try rw [show 0 * 3 = 0 from rfl] at hx305_1); (try rw [Addr.add_zero'] at hx305_1); (try rw [show ((0 : Int)).toNat = 0 from rfl] at hx305_2); (try rw [show 0 * 3 = 0 from rfl] at hx305_2); (try rw [Addr.add_zero'] at hx305_2); have hn305_0 : ad305.block ≠ gb304 := (by first | exact Kd.own_blk (Kd.R_ne HO303.out BK304.out (by decide)) | (have h_ := HO303.out.1 _ rfl; first | exact h_.2 | exact h_.1.2 | exact h_.2.2 | exact h_.1.1.2)); have hn305_1 : ad305.block ≠ gb304 := (by first | exact Kd.own_blk (Kd.R_ne HO303.out BK304.out (by decide)) | (have h_ := HO303.out.1 _ rfl; first | exact h_.2 | exact h_.1.2 | exact h_.2.2 | exact h_.1.1.2)); have hn305_2 : ad305.block ≠ gb304 := (by first | exact Kd.own_blk (Kd.R_ne HO303.out BK304.out (by decide)) | (have h_ := HO303.out.1 _ rfl; first | exact h_.2 | exact h_.1.2 | exact h_.2.2 | exact h_.1.1.2)); have hn305_3 : ad305.block ≠ gb304 := (by first | exact Kd.own_blk (Kd.R_ne HO303.out BK304.out (by decide)) | (have h_ := HO303.out.1 _ rfl; first | exact h_.2 | exact h_.1.2 | exact h_.2.2 | exact h_.1.1.2)); replace hx305_0 := (cell_far (p := ⟨gb304, 0, none⟩) (by first | (rw [add_block]; exact hn305_0) | (show (Addr.add _ _).block ≠ _; rw [add_block]; exact hn305_0) | exact hn305_0) (.int .i64 t298)).trans hx305_0; replace hx305_1 := (cell_far (p := ⟨gb304, 0, none⟩) (by first | (rw [add_block]; exact hn305_0) | (show (Addr.add _ _).block ≠ _; rw [add_block]; exact hn305_0) | exact hn305_0) (.int .i64 t298)).trans hx305_1; replace hx305_2 := (cell_far (p := ⟨gb304, 0, none⟩) (by first | (rw [add_block]; exact hn305_0) | (show (Addr.add _ _).block ≠ _; rw [add_block]; exact hn305_0) | exact hn305_0) (.int .i64 t298)).trans hx305_2; replace hx305_0 := (cell_far (p := ⟨gb304, 1, none⟩) (by first | (rw [add_block]; exact hn305_1) | (show (Addr.add _ _).block ≠ _; rw [add_block]; exact hn305_1) | exact hn305_1) (.int .i64 t299)).trans hx305_0; replace hx305_1 := (cell_far (p := ⟨gb304, 1, none⟩) (by first | (rw [add_block]; exact hn305_1) | (show (Addr.add _ _).block ≠ _; rw [add_block]; exact hn305_1) | exact hn305_1) (.int .i64 t299)).trans hx305_1; replace hx305_2 := (cell_far (p := ⟨gb304, 1, none⟩) (by first | (rw [add_block]; exact hn305_1) | (show (Addr.add _ _).block ≠ _; rw [add_block]; exact hn305_1) | exact hn305_1) (.int .i64 t299)).trans hx305_2; replace hx305_0 := (cell_far (p := ⟨gb304, 2, none⟩) (by first | (rw [add_block]; exact hn305_2) | (show (Addr.add _ _).block ≠ _; rw [add_block]; exact hn305_2) | exact hn305_2) (.int .u8 t300)).trans hx305_0; replace hx305_1 := (cell_far (p := ⟨gb304, 2, none⟩) (by first | (rw [add_block]; exact hn305_2) | (show (Addr.add _ _).block ≠ _; rw [add_block]; exact hn305_2) | exact hn305_2) (.int .u8 t300)).trans hx305_1; replace hx305_2 := (cell_far (p := ⟨gb304, 2, none⟩) (by first | (rw [add_block]; exact hn305_2) | (show (Addr.add _ _).block ≠ _; rw [add_block]; exact hn305_2) | exact hn305_2) (.int .u8 t300)).trans hx305_2; replace hx305_0 := (cell_far (p := ⟨gb304, 3, none⟩) (by first | (rw [add_block]; exact hn305_3) | (show (Addr.add _ _).block ≠ _; rw [add_block]; exact hn305_3) | exact hn305_3) (.slice (some ad305) t301.length co34)).trans hx305_0; replace hx305_1 := (cell_far (p := ⟨gb304, 3, none⟩) (by first | (rw [add_block]; exact hn305_3) | (show (Addr.add _ _).block ≠ _; rw [add_block]; exact hn305_3) | exact hn305_3) (.slice (some ad305) t301.length co34)).trans hx305_1; replace hx305_2 := (cell_far (p := ⟨gb304, 3, none⟩) (by first | (rw [add_block]; exact hn305_3) | (show (Addr.add _ _).block ≠ _; rw [add_block]; exact hn305_3) | exact hn305_3) (.slice (some ad305) t301.length co34)).trans hx305_2; clear hn305_0; clear hn305_1; clear hn305_2; clear hn305_3; replace p305 := eq_true p305; replace q305 := eq_true q305; have p306 : 0 ≤ (1 : Int) := (by omega); have q306 : 1 < (t301.length : Int) := of_decide_eq_true (by first | (with_reducible assumption) | assumption); obtain ⟨ad306, e306, hx306_0, hx306_1, hx306_2⟩ := at_T33 (Kd.R_reads' HO303.out).2.2 1 p306 q306; obtain rfl : ad305 = ad306 := (by injection e306); (try simp only [show (1 : Int).toNat = 1 from rfl, Nat.reduceMul, Nat.reduceEqDiff, Go.Addr.add, ↓reduceIte] at hx306_0); (try simp only [show (1 : Int).toNat = 1 from rfl, Nat.reduceMul, Nat.reduceEqDiff, Go.Addr.add, ↓reduceIte] at hx306_1); (try simp only [show (1 : Int).toNat = 1 from rfl, Nat.reduceMul, Nat.reduceEqDiff, Go.Addr.add, ↓reduceIte] at hx306_2); have qi306 : (1 < t301.length) = True := eq_true (by omega); (try rw [show ((1 : Int)).toNat = 1 from rfl] at hx306_0); (try rw [show 1 * 3 = 3 from rfl] at hx306_0); (try rw [show ((1 : Int)).toNat = 1 from rfl] at hx306_1); (try rw [show 1 * 3 = 3 from rfl] at hx306_1); (try rw [show ((1 : Int)).toNat = 1 from rfl] at hx306_2); (try rw [show 1 * 3 = 3 from rfl] at hx306_2); have hn306_0 : ad305.block ≠ gb304 := (by first | exact Kd.own_blk (Kd.R_ne HO303.out BK304.out (by decide)) | (have h_ := HO303.out.1 _ rfl; first | exact h_.2 | exact h_.1.2 | exact h_.2.2 | exact h_.1.1.2)); have hn306_1 : ad305.block ≠ gb304 := (by first | exact Kd.own_blk (Kd.R_ne HO303.out BK304.out (by decide)) | (have h_ := HO303.out.1 _ rfl; first | exact h_.2 | exact h_.1.2 | exact h_.2.2 | exact h_.1.1.2)); have hn306_2 : ad305.block ≠ gb304 := (by first | exact Kd.own_blk (Kd.R_ne HO303.out BK304.out (by decide)) | (have h_ := HO303.out.1 _ rfl; first | exact h_.2 | exact h_.1.2 | exact h_.2.2 | exact h_.1.1.2)); have hn306_3 : ad305.block ≠ gb304 := (by first | exact Kd.own_blk (Kd.R_ne HO303.out BK304.out (by decide)) | (have h_ := HO303.out.1 _ rfl; first | exact h_.2 | exact h_.1.2 | exact h_.2.2 | exact h_.1.1.2)); replace hx306_0 := (cell_far (p := ⟨gb304, 0, none⟩) (by first | (rw [add_block]; exact hn306_0) | (show (Addr.add _ _).block ≠ _; rw [add_block]; exact hn306_0) | exact hn306_0) (.int .i64 t298)).trans hx306_0; replace hx306_1 := (cell_far (p := ⟨gb304, 0, none⟩) (by first | (rw [add_block]; exact hn306_0) | (show (Addr.add _ _).block ≠ _; rw [add_block]; exact hn306_0) | exact hn306_0) (.int .i64 t298)).trans hx306_1; replace hx306_2 := (cell_far (p := ⟨gb304, 0, none⟩) (by first | (rw [add_block]; exact hn306_0) | (show (Addr.add _ _).block ≠ _; rw [add_block]; exact hn306_0) | exact hn306_0) (.int .i64 t298)).trans hx306_2; replace hx306_0 := (cell_far (p := ⟨gb304, 1, none⟩) (by first | (rw [add_block]; exact hn306_1) | (show (Addr.add _ _).block ≠ _; rw [add_block]; exact hn306_1) | exact hn306_1) (.int .i64 t299)).trans hx306_0; replace hx306_1 := (cell_far (p := ⟨gb304, 1, none⟩) (by first | (rw [add_block]; exact hn306_1) | (show (Addr.add _ _).block ≠ _; rw [add_block]; exact hn306_1) | exact hn306_1) (.int .i64 t299)).trans hx306_1; replace hx306_2 := (cell_far (p := ⟨gb304, 1, none⟩) (by first | (rw [add_block]; exact hn306_1) | (show (Addr.add _ _).block ≠ _; rw [add_block]; exact hn306_1) | exact hn306_1) (.int .i64 t299)).trans hx306_2; replace hx306_0 := (cell_far (p := ⟨gb304, 2, none⟩) (by first | (rw [add_block]; exact hn306_2) | (show (Addr.add _ _).block ≠ _; rw [add_block]; exact hn306_2) | exact hn306_2) (.int .u8 t300)).trans hx306_0; replace hx306_1 := (cell_far (p := ⟨gb304, 2, none⟩) (by first | (rw [add_block]; exact hn306_2) | (show (Addr.add _ _).block ≠ _; rw [add_block]; exact hn306_2) | exact hn306_2) (.int .u8 t300)).trans hx306_1; replace hx306_2 := (cell_far (p := ⟨gb304, 2, none⟩) (by first | (rw [add_block]; exact hn306_2) | (show (Addr.add _ _).block ≠ _; rw [add_block]; exact hn306_2) | exact hn306_2) (.int .u8 t300)).trans hx306_2; replace hx306_0 := (cell_far (p := ⟨gb304, 3, none⟩) (by first | (rw [add_block]; exact hn306_3) | (show (Addr.add _ _).block ≠ _; rw [add_block]; exact hn306_3) | exact hn306_3) (.slice (some ad305) t301.length co34)).trans hx306_0; replace hx306_1 := (cell_far (p := ⟨gb304, 3, none⟩) (by first | (rw [add_block]; exact hn306_3) | (show (Addr.add _ _).block ≠ _; rw [add_block]; exact hn306_3) | exact hn306_3) (.slice (some ad305) t301.length co34)).trans hx306_1; replace hx306_2 := (cell_far (p := ⟨gb304, 3, none⟩) (by first | (rw [add_block]; exact hn306_3) | (show (Addr.add _ _).block ≠ _; rw [add_block]; exact hn306_3) | exact hn306_3) (.slice (some ad305) t301.length co34)).trans hx306_2; clear hn306_0; clear hn306_1; clear hn306_2; clear hn306_3; replace p306 := eq_true p306; replace q306 := eq_true q306; obtain ⟨hcz36_0, hcz36_1, hcz36_2, hfz36_0, hfz36_1, hfz36_2⟩ := c3_ BK286) | (go_at_call 14; (with_reducible refine (plan_May.calls 2 0 false true _ A10.out).mono ?_); rintro e w37 ⟨rfl, hb⟩; have n0_ := Aside0.mk (Kd.R_below (by (with_reducible repeat (first | apply Kd.R_alloc | apply Kd.R_drewN | apply Kd.R_drew)); exact (Kd.R_mono (Kd.R_far (p := ⟨gb304, 3, none⟩) (Kd.R_far (p := ⟨gb304, 2, none⟩) (Kd.R_far (p := ⟨gb304, 1, none⟩) (Kd.R_far (p := ⟨gb304, 0, none⟩) (Kd.R_types HO292.out BK304.out (by decide)) (fun _ hk => hk.2) (.int .i64 t298)) (fun _ hk => hk.2) (.int .i64 t299)) (fun _ hk => hk.2) (.int .u8 t300)) (fun _ hk => hk.2) (.slice (some ad305) t301.length co34)) (fun _ h_ => h_.1))) hb); have n1_ := Aside0.mk (Kd.R_below (by (with_reducible repeat (first | apply Kd.R_alloc | apply Kd.R_drewN | apply Kd.R_drew)); exact (Kd.R_mono (Kd.R_far (p := ⟨gb304, 3, none⟩) (Kd.R_far (p := ⟨gb304, 2, none⟩) (Kd.R_far (p := ⟨gb304, 1, none⟩) (Kd.R_far (p := ⟨gb304, 0, none⟩) (Kd.R_types HO303.out BK304.out (by decide)) (fun _ hk => hk.2) (.int .i64 t298)) (fun _ hk => hk.2) (.int .i64 t299)) (fun _ hk => hk.2) (.int .u8 t300)) (fun _ hk => hk.2) (.slice (some ad305) t301.length co34)) (fun _ h_ => h_.1))) hb); have n2_ := Aside0.mk (blk_below (g := gb286) (o := .cells #[.int .i64 2, .int .i64 0, .bool false] 23 (0, 0)) (bp_ BK286) hb); have n3_ := Aside0.mk (blk_below (g := gb293) (o := .cells #[.int .i64 t287, .int .i64 t288, .int .u8 t289, .slice Ao19 t290.length co19] 26 (0, 0)) (bp_ BK293) hb); have n4_ := Aside0.mk (blk_below (g := gb297) (o := .cells #[.int .i64 t294, .int .i64 t295, .int .i64 t296] 29 (0, 0)) (bp_ BK297) hb); have n5_ := Aside0.mk (blk_below (g := gb304) (o := .cells #[.int .i64 t298, .int .i64 t299, .int .u8 t300, .slice (some ad305) t301.length co34] 26 (0, 0)) (bp_ BK304) hb); have n6_ := bs_ HB hb; clear HO292; clear HO303; clear BK286; clear BK293; clear BK297; clear BK304; clear HB; have HO292 := n0_; have HO303 := n1_; have BK286 := n2_; have BK293 := n3_; have BK297 := n4_; have BK304 := n5_; have HB := n6_; clear n0_ n1_ n2_ n3_ n4_ n5_ n6_; (try clear hb)) | (go_at_call 14; (with_reducible refine (plan_May.calls 0 0 false t308 _ A12.out).mono ?_); rintro e w38 ⟨rfl, hb⟩; have n0_ := Aside0.mk (Kd.R_below (by (with_reducible repeat (first | apply Kd.R_alloc | apply Kd.R_drewN | apply Kd.R_drew)); exact HO292.out) hb); have n1_ := Aside0.mk (Kd.R_below (by (with_reducible repeat (first | apply Kd.R_alloc | apply Kd.R_drewN | apply Kd.R_drew)); exact HO303.out) hb); have n2_ := bb_ BK286 hb; have n3_ := bb_ BK293 hb; have n4_ := bb_ BK297 hb; have n5_ := bb_ BK304 hb; have n6_ := bs_ HB hb; clear HO292; clear HO303; clear BK286; clear BK293; clear BK297; clear BK304; clear HB; have HO292 := n0_; have HO303 := n1_; have BK286 := n2_; have BK293 := n3_; have BK297 := n4_; have BK304 := n5_; have HB := n6_; clear n0_ n1_ n2_ n3_ n4_ n5_ n6_; (try clear hb)))
        go_ret
        exact ⟨by first | rfl | (simp [errW_none, errW_some] <;> rfl) | (simp [*, errW_none, errW_some] <;> rfl), bh_ HB⟩
       ·replace c11 := Bool.eq_false_iff.mpr c11
        subst c11
        have H1 : (some false) = some r := by rw [if_neg (show ¬ (false = true) by decide)] at H; exact H
        clear H
        have H := H1
        clear H1
        exact absurd ((Option.some.inj H).trans HT.out) (by simp)
      ·rw [if_neg c9] at H
       have c9b0 : (((rd_T33 t301 1).f0) == 8 && (((rd_T33 t301 1).f1) == 8 && (((rd_T33 t301 1).f2) == 42))) = false := by simpa using c9
       (try (have c9b1 : decide (((rd_T33 t301 1).f0) = 8 && (((rd_T33 t301 1).f1) == 8 && (((rd_T33 t301 1).f2) == 42))) = false := by simpa using c9))
       (try (have c9b2 : (((rd_T33 t301 1).f0) == 8 && (((rd_T33 t301 1).f1) == 8 && (((rd_T33 t301 1).f2) == 42))) = false := by simpa using c9))
       (try (have c9b3 : ¬ (((rd_T33 t301 1).f0) = 8 && (((rd_T33 t301 1).f1) == 8 && (((rd_T33 t301 1).f2) == 42))) := by simpa using c9))
       clear c9
       exact absurd ((Option.some.inj H).trans HT.out) (by simp)
     ·rw [if_neg c8] at H
      exact absurd H (by simp)
    ·rw [if_neg c7] at H
     have c7b0 : (((rd_T33 t301 0).f0) == 0 && (((rd_T33 t301 0).f1) == 8 && (((rd_T33 t301 0).f2) == 43))) = false := by simpa using c7
     (try (have c7b1 : decide (((rd_T33 t301 0).f0) = 0 && (((rd_T33 t301 0).f1) == 8 && (((rd_T33 t301 0).f2) == 43))) = false := by simpa using c7))
     (try (have c7b2 : (((rd_T33 t301 0).f0) == 0 && (((rd_T33 t301 0).f1) == 8 && (((rd_T33 t301 0).f2) == 43))) = false := by simpa using c7))
     (try (have c7b3 : ¬ (((rd_T33 t301 0).f0) = 0 && (((rd_T33 t301 0).f1) == 8 && (((rd_T33 t301 0).f2) == 43))) := by simpa using c7))
     clear c7
     exact absurd ((Option.some.inj H).trans HT.out) (by simp)
   ·rw [if_neg c6] at H
    exact absurd H (by simp)
  ·rw [if_neg c5] at H
   have c5b0 : ((t301.length : Int) == 3) = false := beq_eq_false_iff_ne.mpr c5
   have c5b1 : ((t301.length : Int) != 3) = true := bne_iff_ne.mpr c5
   exact absurd ((Option.some.inj H).trans HT.out) (by simp)
 ·rw [if_neg c4] at H
  have c4b0 : (t294 == 1 && (t295 == 0 && (t296 == 16))) = false := by simpa using c4
  (try (have c4b1 : decide (t294 = 1 && (t295 == 0 && (t296 == 16))) = false := by simpa using c4))
  (try (have c4b2 : (t294 == 1 && (t295 == 0 && (t296 == 16))) = false := by simpa using c4))
  (try (have c4b3 : ¬ (t294 = 1 && (t295 == 0 && (t296 == 16))) := by simpa using c4))
  clear c4
  exact absurd ((Option.some.inj H).trans HT.out) (by simp)
def salvorlaw18_PlanRuns.f (k : Nat) : Option (Bool) := (salvorlaw18_PlanRuns.g k).bind fun b => if b = true then some true else none
theorem salvorlaw18_PlanRuns.mono : ∀ k, LeO (salvorlaw18_PlanRuns.f k) (salvorlaw18_PlanRuns.f (k + 1)) := fun k => LeO.bind (salvorlaw18_PlanRuns.gmono k) (fun _ => LeO.refl _)
theorem salvorlaw18_PlanRuns.calls (k : Nat) (r : Bool) (w : World) (h : salvorlaw18_PlanRuns.f k = some r) : Calls Try.prog 3 #[] w fun e w' => e = .returned (.bool r) ∧ Below w.heap.size w w' := by
  obtain ⟨b, hb, h1⟩ := Option.bind_eq_some_iff.mp h
  cases b with
  | false => simp at h1
  | true =>
    rw [if_pos rfl] at h1
    obtain rfl := Option.some.inj h1
    exact salvorlaw18_PlanRuns.callsT k true w hb rfl

/-! ### salvorlaw16_Few: function 15 -/
def salvorlaw16_Few.f (l0 : List (S33)) : Option (Bool) := some (decide ((l0.length : Int) ≤ 80))
set_option maxHeartbeats 8000000 in
set_option maxRecDepth 100000 in
theorem salvorlaw16_Few.calls (A0 : Option Addr) (c0 : Nat) (l0 : List (S33)) (r : Bool) (w : World) (hr0 : Kd.C k33 w A0 l0.length l0) (hc0 : l0.length ≤ c0) (h : salvorlaw16_Few.f l0 = some r) :
    Calls Try.prog 15 #[.slice A0 l0.length c0] w fun e w' => e = .returned (.bool r) ∧ Drawn0 w w' := by
  have HR0 := Aside0.mk hr0
  have HC0 := Aside0.mk hc0
  clear hr0 hc0
  have H : (some (decide ((l0.length : Int) ≤ 80))) = some r := h
  clear h
  obtain rfl := Option.some.inj H
  go_enter Try.func15, Try.ntmps15
  go_wp2
  go_ret
  exact ⟨by first | rfl | (simp; done) | (simp [*]; done), by repeat (first | exact Drawn0.refl _ | apply Drawn0.step)⟩

end Go.Proofs.Ytnoilinjlelpaaa.P
