/- Laid by a program of this session's own (wip/wprint.py, over the kit's print.py): functions of the given program as plain Lean functions, and that the program's calls come to their answers. -/
import Derived.Test.YtlcablcpcbmgeaaGreatDoorPx0
import Derived.Test.YtlcablcpcbmgeaaGreatDoorPx5
import Derived.Test.YtlcablcpcbmgeaaGreatDoorPx10
import Derived.Test.YtlcablcpcbmgeaaGreatDoorPx23
import Derived.Test.YtlcablcpcbmgeaaGreatDoorPx26
import Derived.Test.YtlcablcpcbmgeaaGreatDoorPx28
namespace Go.Proofs.YtlcablcpcbmgeaaGreatDoor.P
open Go.RowKit Go.Proofs.YtlcablcpcbmgeaaGreatDoorW.PrintWords Go.Proofs.YtlcablcpcbmgeaaGreatDoorW.PrintLast Go.Proofs.YtlcablcpcbmgeaaGreatDoorW.PrintMore
attribute [local go_sem] max2_int min2_int max_two min_two max_three min_three max_four min_four   -- for this text's walks alone
set_option linter.unusedVariables false
set_option linter.unusedSimpArgs false

/-! ### salvorlaw17_MapPrints: function 4 -/
def salvorlaw17_MapPrints.f (k : Nat) (a0_0 : Int) (a0_1 : Int) (a0_2 : Int) (l0_3 : List (S23)) : Option (Bool) := (salvorlaw16_Few.f l0_3).bind fun t225 => (if t225 = true then ((maptext_May.f k a0_0 a0_1 a0_2 l0_3).bind fun t227 => ((salvorref16_MayMap.f k a0_0 a0_1 a0_2 l0_3).bind fun t228 => (if (t227 == t228) = true then ((maptext_Print.f k a0_0 a0_1 a0_2 l0_3).bind fun t229 => ((salvorref16_Print.f k a0_0 a0_1 a0_2 l0_3).bind fun t230 => (if t229.toList = t230.toList then ((salvorlaw17_MapRuns.f k).bind fun t231 => (some t231)) else (some false)))) else (some false)))) else ((salvorlaw17_MapRuns.f k).bind fun t226 => (some t226)))
theorem salvorlaw17_MapPrints.mono : ∀ a0 a1 a2 a3 k, LeO (salvorlaw17_MapPrints.f k a0 a1 a2 a3) (salvorlaw17_MapPrints.f (k + 1) a0 a1 a2 a3) := by
 intro a0 a1 a2 a3 k
 unfold salvorlaw17_MapPrints.f
 repeat' first
   | (with_reducible exact maptext_May.mono _ _ _ _ _)
   | (with_reducible exact maptext_Print.mono _ _ _ _ _)
   | (with_reducible exact salvorlaw17_MapRuns.mono _)
   | (with_reducible exact salvorref16_MayMap.mono _ _ _ _ _)
   | (with_reducible exact salvorref16_Print.mono _ _ _ _ _)
   | (with_reducible exact LeO.refl _)
   | (with_reducible exact LeO.none _)
   | (with_reducible refine LeO.ite ?_ ?_)
   | (with_reducible refine LeO.bind ?_ (fun _ => ?_))
   | exact maptext_May.mono _ _ _ _ _
   | exact maptext_Print.mono _ _ _ _ _
   | exact salvorlaw17_MapRuns.mono _
   | exact salvorref16_MayMap.mono _ _ _ _ _
   | exact salvorref16_Print.mono _ _ _ _ _
   | exact LeO.none _
   | refine LeO.ite ?_ ?_
   | refine LeO.bind ?_ (fun _ => ?_)
def salvorlaw17_MapPrints.T3 : Bool × List (List Nat × List Nat) := (true, [([], []), ([0], [0]), ([], []), ([2, 1], [2]), ([1, 3], [1, 3]), ([4, 3], [4]), ([5], [5]), ([6, 5, 5], [5, 6]), ([5], [5]), ([8, 7, 5], [5, 8]), ([7, 9, 5], [5, 7, 9]), ([5, 10], [5, 10]), ([11, 9], [11]), ([12, 12], [12]), ([12, 13], [12, 13]), ([14, 13, 0, 1, 2, 3, 4, 5, 6, 7, 8, 9, 10, 11, 12, 13, 14], [14])])
def salvorlaw17_MapPrints.B3 : List Nat := [0, 1, 0, 7, 15, 31, 63, 127, 63, 511, 1023, 2047, 4095, 8191, 16383, 32767]
theorem salvorlaw17_MapPrints.tab3 : rtab .any (opsOf Tryz.f4 3) = salvorlaw17_MapPrints.T3 := by kernel_rfl
theorem salvorlaw17_MapPrints.bits3 : waitsOk salvorlaw17_MapPrints.T3.2 salvorlaw17_MapPrints.B3 = true := by kernel_rfl
set_option maxHeartbeats 8000000 in
set_option maxRecDepth 100000 in
theorem salvorlaw17_MapPrints.calls (k : Nat) (a0_0 : Int) (a0_1 : Int) (a0_2 : Int) (A0_3 : Option Addr) (c0_3 : Nat) (l0_3 : List (S23)) (r : Bool) (w : World) (hr0_3 : Kd.C k23 w A0_3 l0_3.length l0_3) (hc0_3 : l0_3.length ≤ c0_3) (h : salvorlaw17_MapPrints.f k a0_0 a0_1 a0_2 l0_3 = some r) (htab : TabAt w) (hrt : r = true) :
  Calls Tryz.prog 4 #[.agg #[.int .i64 a0_0, .int .i64 a0_1, .int .u8 a0_2, .slice A0_3 l0_3.length c0_3]] w fun e w' => e = .returned (.bool r) ∧ Below w.heap.size w w' := by
 have HT := Aside0.mk hrt
 clear hrt
 have HTAB := Aside0.mk htab
 clear htab
 have hu26 := Tryz.underlying26
 have HR0_3 := Aside0.mk hr0_3
 have HC0_3 := Aside0.mk hc0_3
 clear hr0_3 hc0_3
 have HB := Aside0.mk (Below.refl w.heap.size w)
 have H : ((salvorlaw16_Few.f l0_3).bind fun t225 => (if t225 = true then ((maptext_May.f k a0_0 a0_1 a0_2 l0_3).bind fun t227 => ((salvorref16_MayMap.f k a0_0 a0_1 a0_2 l0_3).bind fun t228 => (if (t227 == t228) = true then ((maptext_Print.f k a0_0 a0_1 a0_2 l0_3).bind fun t229 => ((salvorref16_Print.f k a0_0 a0_1 a0_2 l0_3).bind fun t230 => (if t229.toList = t230.toList then ((salvorlaw17_MapRuns.f k).bind fun t231 => (some t231)) else (some false)))) else (some false)))) else ((salvorlaw17_MapRuns.f k).bind fun t226 => (some t226)))) = some r := h
 clear h
 replace H := Option.bind_eq_some_iff.mp H
 obtain ⟨t225, A20, H⟩ := H
 replace H : (if t225 = true then ((maptext_May.f k a0_0 a0_1 a0_2 l0_3).bind fun t227 => ((salvorref16_MayMap.f k a0_0 a0_1 a0_2 l0_3).bind fun t228 => (if (t227 == t228) = true then ((maptext_Print.f k a0_0 a0_1 a0_2 l0_3).bind fun t229 => ((salvorref16_Print.f k a0_0 a0_1 a0_2 l0_3).bind fun t230 => (if t229.toList = t230.toList then ((salvorlaw17_MapRuns.f k).bind fun t231 => (some t231)) else (some false)))) else (some false)))) else ((salvorlaw17_MapRuns.f k).bind fun t226 => (some t226))) = some r := H
 have A2 := Aside0.mk A20
 clear A20
 by_cases c3 : t225 = true
 ·subst c3
  have H1 : ((maptext_May.f k a0_0 a0_1 a0_2 l0_3).bind fun t227 => ((salvorref16_MayMap.f k a0_0 a0_1 a0_2 l0_3).bind fun t228 => (if (t227 == t228) = true then ((maptext_Print.f k a0_0 a0_1 a0_2 l0_3).bind fun t229 => ((salvorref16_Print.f k a0_0 a0_1 a0_2 l0_3).bind fun t230 => (if t229.toList = t230.toList then ((salvorlaw17_MapRuns.f k).bind fun t231 => (some t231)) else (some false)))) else (some false)))) = some r := by rw [if_pos rfl] at H; exact H
  clear H
  have H := H1
  clear H1
  replace H := Option.bind_eq_some_iff.mp H
  obtain ⟨t227, A40, H⟩ := H
  replace H : ((salvorref16_MayMap.f k a0_0 a0_1 a0_2 l0_3).bind fun t228 => (if (t227 == t228) = true then ((maptext_Print.f k a0_0 a0_1 a0_2 l0_3).bind fun t229 => ((salvorref16_Print.f k a0_0 a0_1 a0_2 l0_3).bind fun t230 => (if t229.toList = t230.toList then ((salvorlaw17_MapRuns.f k).bind fun t231 => (some t231)) else (some false)))) else (some false))) = some r := H
  have A4 := Aside0.mk A40
  clear A40
  replace H := Option.bind_eq_some_iff.mp H
  obtain ⟨t228, A50, H⟩ := H
  replace H : (if (t227 == t228) = true then ((maptext_Print.f k a0_0 a0_1 a0_2 l0_3).bind fun t229 => ((salvorref16_Print.f k a0_0 a0_1 a0_2 l0_3).bind fun t230 => (if t229.toList = t230.toList then ((salvorlaw17_MapRuns.f k).bind fun t231 => (some t231)) else (some false)))) else (some false)) = some r := H
  have A5 := Aside0.mk A50
  clear A50
  by_cases c6 : (t227 == t228) = true
  ·rw [if_pos c6] at H
   have c6b0 : (t227 == t228) = true := c6
   (try (have c6b1 : decide (t227 = t228) = true := by simpa using c6))
   (try (have c6b2 : (t227 == t228) = true := by simpa using c6))
   clear c6
   replace H := Option.bind_eq_some_iff.mp H
   obtain ⟨t229, A70, H⟩ := H
   replace H : ((salvorref16_Print.f k a0_0 a0_1 a0_2 l0_3).bind fun t230 => (if t229.toList = t230.toList then ((salvorlaw17_MapRuns.f k).bind fun t231 => (some t231)) else (some false))) = some r := H
   have A7 := Aside0.mk A70
   clear A70
   replace H := Option.bind_eq_some_iff.mp H
   obtain ⟨t230, A80, H⟩ := H
   replace H : (if t229.toList = t230.toList then ((salvorlaw17_MapRuns.f k).bind fun t231 => (some t231)) else (some false)) = some r := H
   have A8 := Aside0.mk A80
   clear A80
   by_cases c9 : t229.toList = t230.toList
   ·rw [if_pos c9] at H
    have c9b0 : (t229.toList == t230.toList) = true := beq_iff_eq.mpr c9
    have c9b1 : (t229.toList != t230.toList) = false := bne_eq_false_iff_eq.mpr c9
    clear c9
    replace H := Option.bind_eq_some_iff.mp H
    obtain ⟨t231, A100, H⟩ := H
    replace H : (some t231) = some r := H
    have A10 := Aside0.mk A100
    clear A100
    obtain rfl := Option.some.inj H
    go_enter Tryz.func4, Tryz.ntmps4
    try go_wp2_with (first | ((with_reducible refine gate_dst (N := 1) rfl ?_); refine box_e 1 #[.int .i64 a0_0, .int .i64 a0_1, .int .u8 a0_2, .slice A0_3 l0_3.length c0_3] 26 ?_; intro gb224 hg w11 hbox hb; have BK224 := Aside0.mk hbox; have GW224 := bg_ HB hg; have GE224 := bg_ HB hg; replace HB := bs_ HB hb; clear hb hbox hg; obtain ⟨hcz12_0, hcz12_1, hcz12_2, hcz12_3, hfz12_0, hfz12_1, hfz12_2, hfz12_3⟩ := c4_ BK224) | ((with_reducible refine gate_callee (f := 14) rfl ?_); refine gl_ (some 5) rfl rfl Tryz.func14 (by kernel_rfl) rfl #[.slice A0_3 l0_3.length c0_3] rfl ?_; (with_reducible refine (salvorlaw16_Few.calls _ _ l0_3 true _ ?side1 ?side2 A2.out).mono ?_); (case side1 => exact cb_ HR0_3 HB); (case side2 => exact HC0_3.out); rintro e w' ⟨rfl, ⟨nd, rfl⟩⟩; refine ⟨_, rfl, ?_⟩))
    (try (rw [drewN_self w11]; generalize hq_ : World.drewN w11 _ = w11; have n0_ : Aside0 (w11.heap[gb224]? = some (.cells #[.int .i64 a0_0, .int .i64 a0_1, .int .u8 a0_2, .slice A0_3 l0_3.length c0_3] 26 (0, 0))) := ⟨by rw [← hq_]; exact (bq_ BK224)⟩; have n1_ : Aside0 (Below w.heap.size w w11) := ⟨by rw [← hq_]; exact (bh_ HB)⟩; clear BK224 HB hq_; have BK224 := n0_; have HB := n1_; clear n0_ n1_))
    replace BK224 := Aside0.mk (blk_drew BK224.out)
    replace HB := Aside0.mk (below_drew1 HB.out)
    refine start_ (n := 16) (S := fun w' => w'.cell? ⟨gb224, 0, none⟩ = some (.int .i64 a0_0) ∧ w'.cell? ⟨gb224, 1, none⟩ = some (.int .i64 a0_1) ∧ w'.cell? ⟨gb224, 2, none⟩ = some (.int .u8 a0_2) ∧ w'.cell? ⟨gb224, 3, none⟩ = some (.slice A0_3 l0_3.length c0_3)) (ds := []) #[false, false, false, false, false, false, false, false, false, false, false, false, false, false, false, false] (by kernel_rfl) rfl rfl (k4_ BK224) (fun hHeld => ?_); refine with_tabW salvorlaw17_MapPrints.tab3 salvorlaw17_MapPrints.bits3 (fun HT_ HW_ => ?_)
    generalize w11.drew = w13 at BK224 HB hHeld ⊢
    refine tk_ 0 8 (lb_ 16 1) rfl rfl (take_ofW HT_.out HW_.out (by kernel_rfl)) hHeld ?_
    refine tk_ 2 10 (lb_ 16 5) rfl rfl (take_ofW HT_.out HW_.out (by kernel_rfl)) hHeld ?_
    refine one_ (i := 1) (N := some 9) #[true, true, true, false, false, false, false, false, false, false, false, false, false, false, false, false] rfl rfl (one_of HT_.out (by kernel_rfl)) (by decide) (fun K hK => ?_)
    refine gq_ Tryz.func13 (by kernel_rfl) rfl #[.agg #[.int .i64 a0_0, .int .i64 a0_1, .int .u8 a0_2, .slice A0_3 l0_3.length c0_3]] (by rfl) rfl rfl ?_
    with_reducible refine (maptext_May.calls k a0_0 a0_1 a0_2 _ _ l0_3 t227 _ ?side1 ?side2 A4.out).mono ?_
    (case side1 => exact cb_ HR0_3 HB)
    (case side2 => exact HC0_3.out)
    rintro e w14 ⟨rfl, hb⟩
    refine ⟨_, rfl, ?_⟩
    replace BK224 := bb_ BK224 hb
    replace HB := bs_ HB hb
    (try clear hb)
    refine hK.out _ _ (k4_ BK224) (fun hHeld => ?_)
    clear hK K
    refine nm_ 9 ?_
    refine one_ (i := 3) (N := some 11) #[true, true, true, true, false, false, false, false, false, false, false, false, false, false, false, false] rfl rfl (one_of HT_.out (by kernel_rfl)) (by decide) (fun K hK => ?_)
    refine gq_ Tryz.func15 (by kernel_rfl) rfl #[.agg #[.int .i64 a0_0, .int .i64 a0_1, .int .u8 a0_2, .slice A0_3 l0_3.length c0_3]] (by rfl) rfl rfl ?_
    with_reducible refine (salvorref16_MayMap.calls k a0_0 a0_1 a0_2 _ _ l0_3 t228 _ ?side1 ?side2 A5.out).mono ?_
    (case side1 => exact cb_ HR0_3 HB)
    (case side2 => exact HC0_3.out)
    rintro e w15 ⟨rfl, hb⟩
    refine ⟨_, rfl, ?_⟩
    replace BK224 := bb_ BK224 hb
    replace HB := bs_ HB hb
    (try clear hb)
    refine hK.out _ _ (k4_ BK224) (fun hHeld => ?_)
    clear hK K
    refine nm_ 11 ?_
    refine pu_ 4 12 (lb_ 16 31) rfl rfl (ao_ HT_) ?_
    refine pu_ 5 13 (lb_ 16 63) rfl rfl (ao_ HT_) ?_
    refine tk_ 6 14 (lb_ 16 127) rfl rfl (take_ofW HT_.out HW_.out (by kernel_rfl)) hHeld ?_
    refine tk_ 8 16 (lb_ 16 383) rfl rfl (take_ofW HT_.out HW_.out (by kernel_rfl)) hHeld ?_
    refine one_ (i := 7) (N := some 15) #[true, true, true, true, true, true, true, true, true, false, false, false, false, false, false, false] rfl rfl (one_of HT_.out (by kernel_rfl)) (by decide) (fun K hK => ?_)
    refine gq_ Tryz.func10 (by kernel_rfl) rfl #[.agg #[.int .i64 a0_0, .int .i64 a0_1, .int .u8 a0_2, .slice A0_3 l0_3.length c0_3]] (by rfl) rfl rfl ?_
    with_reducible refine (maptext_Print.calls k a0_0 a0_1 a0_2 _ _ l0_3 t229 _ ?side1 ?side2 A7.out ?tb0_).mono ?_
    (case tb0_ => exact tb_ HTAB HB)
    (case side1 => exact cb_ HR0_3 HB)
    (case side2 => exact HC0_3.out)
    rintro e w16 ⟨rfl, hb⟩
    refine ⟨_, rfl, ?_⟩
    replace BK224 := bb_ BK224 hb
    replace HB := bs_ HB hb
    (try clear hb)
    refine hK.out _ _ (k4_ BK224) (fun hHeld => ?_)
    clear hK K
    refine nm_ 15 ?_
    refine one_ (i := 9) (N := some 17) #[true, true, true, true, true, true, true, true, true, true, false, false, false, false, false, false] rfl rfl (one_of HT_.out (by kernel_rfl)) (by decide) (fun K hK => ?_)
    refine gq_ Tryz.func16 (by kernel_rfl) rfl #[.agg #[.int .i64 a0_0, .int .i64 a0_1, .int .u8 a0_2, .slice A0_3 l0_3.length c0_3]] (by rfl) rfl rfl ?_
    with_reducible refine (salvorref16_Print.calls k a0_0 a0_1 a0_2 _ _ l0_3 t230 _ ?side1 ?side2 A8.out).mono ?_
    (case side1 => exact cb_ HR0_3 HB)
    (case side2 => exact HC0_3.out)
    rintro e w17 ⟨rfl, hb⟩
    refine ⟨_, rfl, ?_⟩
    replace BK224 := bb_ BK224 hb
    replace HB := bs_ HB hb
    (try clear hb)
    refine hK.out _ _ (k4_ BK224) (fun hHeld => ?_)
    clear hK K
    refine nm_ 17 ?_
    refine pu_ 10 18 (lb_ 16 2047) rfl rfl (ao_ HT_) ?_
    refine pu_ 11 19 (lb_ 16 4095) rfl rfl (ao_ HT_) ?_
    refine pu_ 12 20 (lb_ 16 8191) rfl rfl (ao_ HT_) ?_
    refine one_ (i := 13) (N := some 21) #[true, true, true, true, true, true, true, true, true, true, true, true, true, true, false, false] rfl rfl (one_of HT_.out (by kernel_rfl)) (by decide) (fun K hK => ?_)
    refine gq_ Tryz.func3 (by kernel_rfl) rfl #[] (by rfl) rfl rfl ?_
    with_reducible refine (salvorlaw17_MapRuns.calls k  t231 _ A10.out ?tb2_).mono ?_
    (case tb2_ => exact tb_ HTAB HB)
    rintro e w18 ⟨rfl, hb⟩
    refine ⟨_, rfl, ?_⟩
    replace BK224 := bb_ BK224 hb
    replace HB := bs_ HB hb
    (try clear hb)
    refine hK.out _ _ (k4_ BK224) (fun hHeld => ?_)
    clear hK K
    refine nm_ 21 ?_
    refine pu_ 14 22 (lb_ 16 32767) rfl rfl (ao_ HT_) ?_
    refine pu_ 15 2 (lb_ 16 65535) rfl rfl (ao_ HT_) ?_
    refine done_ (done_of HT_.out (by kernel_rfl)) ?_
    try go_wp2
    go_ret
    exact ⟨by first | rfl | (simp [errW_none, errW_some] <;> rfl) | (simp [*, errW_none, errW_some] <;> rfl), bh_ HB⟩
   ·rw [if_neg c9] at H
    have c9b0 : (t229.toList == t230.toList) = false := beq_eq_false_iff_ne.mpr c9
    have c9b1 : (t229.toList != t230.toList) = true := bne_iff_ne.mpr c9
    exact absurd ((Option.some.inj H).trans HT.out) (by simp)
  ·rw [if_neg c6] at H
   have c6b0 : (t227 == t228) = false := by simpa using c6
   (try (have c6b1 : decide (t227 = t228) = false := by simpa using c6))
   (try (have c6b2 : (t227 == t228) = false := by simpa using c6))
   (try (have c6b3 : ¬ (t227 = t228) := by simpa using c6))
   clear c6
   exact absurd ((Option.some.inj H).trans HT.out) (by simp)
 ·replace c3 := Bool.eq_false_iff.mpr c3
  subst c3
  have H1 : ((salvorlaw17_MapRuns.f k).bind fun t226 => (some t226)) = some r := by rw [if_neg (show ¬ (false = true) by decide)] at H; exact H
  clear H
  have H := H1
  clear H1
  replace H := Option.bind_eq_some_iff.mp H
  obtain ⟨t226, A190, H⟩ := H
  replace H : (some t226) = some r := H
  have A19 := Aside0.mk A190
  clear A190
  obtain rfl := Option.some.inj H
  go_enter Tryz.func4, Tryz.ntmps4
  go_wp2_with (first | ((with_reducible refine gate_dst (N := 1) rfl ?_); refine box_e 1 #[.int .i64 a0_0, .int .i64 a0_1, .int .u8 a0_2, .slice A0_3 l0_3.length c0_3] 26 ?_; intro gb224 hg w20 hbox hb; have BK224 := Aside0.mk hbox; have GW224 := bg_ HB hg; have GE224 := bg_ HB hg; replace HB := bs_ HB hb; clear hb hbox hg; obtain ⟨hcz21_0, hcz21_1, hcz21_2, hcz21_3, hfz21_0, hfz21_1, hfz21_2, hfz21_3⟩ := c4_ BK224) | ((with_reducible refine gate_callee (f := 14) rfl ?_); refine gl_ (some 5) rfl rfl Tryz.func14 (by kernel_rfl) rfl #[.slice A0_3 l0_3.length c0_3] rfl ?_; (with_reducible refine (salvorlaw16_Few.calls _ _ l0_3 false _ ?side1 ?side2 A2.out).mono ?_); (case side1 => exact cb_ HR0_3 HB); (case side2 => exact HC0_3.out); rintro e w' ⟨rfl, ⟨nd, rfl⟩⟩; refine ⟨_, rfl, ?_⟩) | ((with_reducible refine gate_callee (f := 3) rfl ?_); refine gl_ (some 7) rfl rfl Tryz.func3 (by kernel_rfl) rfl #[] rfl ?_; (with_reducible refine (salvorlaw17_MapRuns.calls k  t226 _ A19.out ?tb4_).mono ?_); (case tb4_ => exact tb_ HTAB HB); rintro e w22 ⟨rfl, hb⟩; refine ⟨_, rfl, ?_⟩; replace BK224 := bb_ BK224 hb; replace HB := bs_ HB hb; (try clear hb)))
  go_ret
  exact ⟨by first | rfl | (simp [errW_none, errW_some] <;> rfl) | (simp [*, errW_none, errW_some] <;> rfl), bh_ HB⟩

end Go.Proofs.YtlcablcpcbmgeaaGreatDoor.P
