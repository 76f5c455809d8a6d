/- Laid by a program of this session's own (wip/wprint.py, over the kit's print.py): functions of the given program as plain Lean functions, and that the program's calls come to their answers. -/
import Derived.Test.YtjgkfnbfjamccaaPx0
import Derived.Test.YtjgkfnbfjamccaaPx1
import Derived.Test.YtjgkfnbfjamccaaPx3
import Derived.Test.YtjgkfnbfjamccaaPx8
import Derived.Test.YtjgkfnbfjamccaaPx12
import Derived.Test.YtjgkfnbfjamccaaPx16
import Derived.Test.YtjgkfnbfjamccaaPx17
import Derived.Test.YtjgkfnbfjamccaaPx18
import Derived.Test.YtjgkfnbfjamccaaPx20
import Derived.Test.YtjgkfnbfjamccaaPx21
import Derived.Test.YtjgkfnbfjamccaaPx32
import Derived.Test.YtjgkfnbfjamccaaPx33
import Derived.Test.YtjgkfnbfjamccaaPx34
namespace Go.Proofs.Ytjgkfnbfjamccaa.P
open Go.RowKit Go.Proofs.YtjgkfnbfjamccaaW.PrintWords Go.Proofs.YtjgkfnbfjamccaaW.PrintLast Go.Proofs.YtjgkfnbfjamccaaW.PrintMore
attribute [local go_sem] max2_int min2_int max_two min_two max_three min_three max_four min_four   -- for this text's walks alone
set_option linter.unusedVariables false
set_option linter.unusedSimpArgs false

attribute [local go_sem high] eqA26
/-! ### salvorlaw16_RegionMay: function 7 -/
def salvorlaw16_RegionMay.f (k : Nat) (l0 : List (S26)) (a1 : Int) (a2 : Int) : Option (Bool) := (salvorlaw16_Few.f l0).bind fun t332 => (if t332 = true then ((region_At.f k l0 a2).bind fun bt334 => ((salvorref16_At.f k l0 a2).bind fun bt339 => ((region_May.f k l0).bind fun t344 => ((salvorref16_MayRegions.f k l0).bind fun t345 => (if (t344 == t345) = true then ((region_End.f k l0).bind fun t346 => ((salvorref16_End.f k l0).bind fun t347 => (if t346 = t347 then ((region_New.f a1).bind fun t348 => ((salvorref16_NewRegions.f a1).bind fun t351 => ((salvorref16_SameRegions.f k t348 t351).bind fun t354 => (if t354 = true then (if (bt334.1 == bt339.1 && (bt334.2.1 == bt339.2.1 && (bt334.2.2.1 == bt339.2.2.1))) = true then (if (bt334.2.2.2 == bt339.2.2.2) = true then ((salvorlaw16_RegionRuns.f k).bind fun t355 => (some t355)) else (some false)) else (some false)) else (some false))))) else (some false)))) else (some false)))))) else ((salvorlaw16_RegionRuns.f k).bind fun t333 => (some t333)))
theorem salvorlaw16_RegionMay.mono : ∀ a0 a1 a2 k, LeO (salvorlaw16_RegionMay.f k a0 a1 a2) (salvorlaw16_RegionMay.f (k + 1) a0 a1 a2) := by
  intro a0 a1 a2 k
  unfold salvorlaw16_RegionMay.f
  repeat' first
      | (with_reducible exact region_At.mono _ _ _)
      | (with_reducible exact region_End.mono _ _)
      | (with_reducible exact region_May.mono _ _)
      | (with_reducible exact salvorlaw16_RegionRuns.mono _)
      | (with_reducible exact salvorref16_At.mono _ _ _)
      | (with_reducible exact salvorref16_End.mono _ _)
      | (with_reducible exact salvorref16_MayRegions.mono _ _)
      | (with_reducible exact salvorref16_SameRegions.mono _ _ _)
      | (with_reducible exact LeO.refl _)
      | (with_reducible exact LeO.none _)
      | (with_reducible refine LeO.ite ?_ ?_)
      | (with_reducible refine LeO.bind ?_ (fun _ => ?_))
      | exact region_At.mono _ _ _
      | exact region_End.mono _ _
      | exact region_May.mono _ _
      | exact salvorlaw16_RegionRuns.mono _
      | exact salvorref16_At.mono _ _ _
      | exact salvorref16_End.mono _ _
      | exact salvorref16_MayRegions.mono _ _
      | exact salvorref16_SameRegions.mono _ _ _
      | exact LeO.none _
      | refine LeO.ite ?_ ?_
      | refine LeO.bind ?_ (fun _ => ?_)
set_option maxHeartbeats 8000000 in
set_option maxRecDepth 100000 in
theorem salvorlaw16_RegionMay.calls (k : Nat) (A0 : Option Addr) (c0 : Nat) (l0 : List (S26)) (a1 : Int) (a2 : Int) (r : Bool) (w : World) (hr0 : Kd.C k26 w A0 l0.length l0) (hc0 : l0.length ≤ c0) (h : salvorlaw16_RegionMay.f k l0 a1 a2 = some r) (hrt : r = true) :
    Calls Try.prog 7 #[.slice A0 l0.length c0, .int .i64 a1, .int .i64 a2] w fun e w' => e = .returned (.bool r) ∧ Below w.heap.size w w' := by
  have HT := Aside0.mk hrt
  clear hrt
  have hu26 := Try.underlying26
  have HR0 := Aside0.mk hr0
  have HC0 := Aside0.mk hc0
  clear hr0 hc0
  have HB := Aside0.mk (Below.refl w.heap.size w)
  have H : ((salvorlaw16_Few.f l0).bind fun t332 => (if t332 = true then ((region_At.f k l0 a2).bind fun bt334 => ((salvorref16_At.f k l0 a2).bind fun bt339 => ((region_May.f k l0).bind fun t344 => ((salvorref16_MayRegions.f k l0).bind fun t345 => (if (t344 == t345) = true then ((region_End.f k l0).bind fun t346 => ((salvorref16_End.f k l0).bind fun t347 => (if t346 = t347 then ((region_New.f a1).bind fun t348 => ((salvorref16_NewRegions.f a1).bind fun t351 => ((salvorref16_SameRegions.f k t348 t351).bind fun t354 => (if t354 = true then (if (bt334.1 == bt339.1 && (bt334.2.1 == bt339.2.1 && (bt334.2.2.1 == bt339.2.2.1))) = true then (if (bt334.2.2.2 == bt339.2.2.2) = true then ((salvorlaw16_RegionRuns.f k).bind fun t355 => (some t355)) else (some false)) else (some false)) else (some false))))) else (some false)))) else (some false)))))) else ((salvorlaw16_RegionRuns.f k).bind fun t333 => (some t333)))) = some r := h
  clear h
  replace H := Option.bind_eq_some_iff.mp H
  obtain ⟨t332, A40, H⟩ := H
  replace H : (if t332 = true then ((region_At.f k l0 a2).bind fun bt334 => ((salvorref16_At.f k l0 a2).bind fun bt339 => ((region_May.f k l0).bind fun t344 => ((salvorref16_MayRegions.f k l0).bind fun t345 => (if (t344 == t345) = true then ((region_End.f k l0).bind fun t346 => ((salvorref16_End.f k l0).bind fun t347 => (if t346 = t347 then ((region_New.f a1).bind fun t348 => ((salvorref16_NewRegions.f a1).bind fun t351 => ((salvorref16_SameRegions.f k t348 t351).bind fun t354 => (if t354 = true then (if (bt334.1 == bt339.1 && (bt334.2.1 == bt339.2.1 && (bt334.2.2.1 == bt339.2.2.1))) = true then (if (bt334.2.2.2 == bt339.2.2.2) = true then ((salvorlaw16_RegionRuns.f k).bind fun t355 => (some t355)) else (some false)) else (some false)) else (some false))))) else (some false)))) else (some false)))))) else ((salvorlaw16_RegionRuns.f k).bind fun t333 => (some t333))) = some r := H
  have A4 := Aside0.mk A40
  clear A40
  by_cases c5 : t332 = true
  · subst c5
    have H1 : ((region_At.f k l0 a2).bind fun bt334 => ((salvorref16_At.f k l0 a2).bind fun bt339 => ((region_May.f k l0).bind fun t344 => ((salvorref16_MayRegions.f k l0).bind fun t345 => (if (t344 == t345) = true then ((region_End.f k l0).bind fun t346 => ((salvorref16_End.f k l0).bind fun t347 => (if t346 = t347 then ((region_New.f a1).bind fun t348 => ((salvorref16_NewRegions.f a1).bind fun t351 => ((salvorref16_SameRegions.f k t348 t351).bind fun t354 => (if t354 = true then (if (bt334.1 == bt339.1 && (bt334.2.1 == bt339.2.1 && (bt334.2.2.1 == bt339.2.2.1))) = true then (if (bt334.2.2.2 == bt339.2.2.2) = true then ((salvorlaw16_RegionRuns.f k).bind fun t355 => (some t355)) else (some false)) else (some false)) else (some false))))) else (some false)))) else (some false)))))) = some r := by rw [if_pos rfl] at H; exact H
    clear H
    have H := H1
    clear H1
    replace H := Option.bind_eq_some_iff.mp H
    obtain ⟨⟨t334, t335, t336, t337⟩, A60, H⟩ := H
    replace H : ((salvorref16_At.f k l0 a2).bind fun bt339 => ((region_May.f k l0).bind fun t344 => ((salvorref16_MayRegions.f k l0).bind fun t345 => (if (t344 == t345) = true then ((region_End.f k l0).bind fun t346 => ((salvorref16_End.f k l0).bind fun t347 => (if t346 = t347 then ((region_New.f a1).bind fun t348 => ((salvorref16_NewRegions.f a1).bind fun t351 => ((salvorref16_SameRegions.f k t348 t351).bind fun t354 => (if t354 = true then (if (t334 == bt339.1 && (t335 == bt339.2.1 && (t336 == bt339.2.2.1))) = true then (if (t337 == bt339.2.2.2) = true then ((salvorlaw16_RegionRuns.f k).bind fun t355 => (some t355)) else (some false)) else (some false)) else (some false))))) else (some false)))) else (some false))))) = some r := H
    have A6 := Aside0.mk A60
    clear A60
    replace H := Option.bind_eq_some_iff.mp H
    obtain ⟨⟨t339, t340, t341, t342⟩, A70, H⟩ := H
    replace H : ((region_May.f k l0).bind fun t344 => ((salvorref16_MayRegions.f k l0).bind fun t345 => (if (t344 == t345) = true then ((region_End.f k l0).bind fun t346 => ((salvorref16_End.f k l0).bind fun t347 => (if t346 = t347 then ((region_New.f a1).bind fun t348 => ((salvorref16_NewRegions.f a1).bind fun t351 => ((salvorref16_SameRegions.f k t348 t351).bind fun t354 => (if t354 = true then (if (t334 == t339 && (t335 == t340 && (t336 == t341))) = true then (if (t337 == t342) = true then ((salvorlaw16_RegionRuns.f k).bind fun t355 => (some t355)) else (some false)) else (some false)) else (some false))))) else (some false)))) else (some false)))) = some r := H
    have A7 := Aside0.mk A70
    clear A70
    replace H := Option.bind_eq_some_iff.mp H
    obtain ⟨t344, A80, H⟩ := H
    replace H : ((salvorref16_MayRegions.f k l0).bind fun t345 => (if (t344 == t345) = true then ((region_End.f k l0).bind fun t346 => ((salvorref16_End.f k l0).bind fun t347 => (if t346 = t347 then ((region_New.f a1).bind fun t348 => ((salvorref16_NewRegions.f a1).bind fun t351 => ((salvorref16_SameRegions.f k t348 t351).bind fun t354 => (if t354 = true then (if (t334 == t339 && (t335 == t340 && (t336 == t341))) = true then (if (t337 == t342) = true then ((salvorlaw16_RegionRuns.f k).bind fun t355 => (some t355)) else (some false)) else (some false)) else (some false))))) else (some false)))) else (some false))) = some r := H
    have A8 := Aside0.mk A80
    clear A80
    replace H := Option.bind_eq_some_iff.mp H
    obtain ⟨t345, A90, H⟩ := H
    replace H : (if (t344 == t345) = true then ((region_End.f k l0).bind fun t346 => ((salvorref16_End.f k l0).bind fun t347 => (if t346 = t347 then ((region_New.f a1).bind fun t348 => ((salvorref16_NewRegions.f a1).bind fun t351 => ((salvorref16_SameRegions.f k t348 t351).bind fun t354 => (if t354 = true then (if (t334 == t339 && (t335 == t340 && (t336 == t341))) = true then (if (t337 == t342) = true then ((salvorlaw16_RegionRuns.f k).bind fun t355 => (some t355)) else (some false)) else (some false)) else (some false))))) else (some false)))) else (some false)) = some r := H
    have A9 := Aside0.mk A90
    clear A90
    by_cases c10 : (t344 == t345) = true
    · rw [if_pos c10] at H
      have c10b0 : (t344 == t345) = true := c10
      (try (have c10b1 : decide (t344 = t345) = true := by simpa using c10))
      (try (have c10b2 : (t344 == t345) = true := by simpa using c10))
      clear c10
      replace H := Option.bind_eq_some_iff.mp H
      obtain ⟨t346, A110, H⟩ := H
      replace H : ((salvorref16_End.f k l0).bind fun t347 => (if t346 = t347 then ((region_New.f a1).bind fun t348 => ((salvorref16_NewRegions.f a1).bind fun t351 => ((salvorref16_SameRegions.f k t348 t351).bind fun t354 => (if t354 = true then (if (t334 == t339 && (t335 == t340 && (t336 == t341))) = true then (if (t337 == t342) = true then ((salvorlaw16_RegionRuns.f k).bind fun t355 => (some t355)) else (some false)) else (some false)) else (some false))))) else (some false))) = some r := H
      have A11 := Aside0.mk A110
      clear A110
      replace H := Option.bind_eq_some_iff.mp H
      obtain ⟨t347, A120, H⟩ := H
      replace H : (if t346 = t347 then ((region_New.f a1).bind fun t348 => ((salvorref16_NewRegions.f a1).bind fun t351 => ((salvorref16_SameRegions.f k t348 t351).bind fun t354 => (if t354 = true then (if (t334 == t339 && (t335 == t340 && (t336 == t341))) = true then (if (t337 == t342) = true then ((salvorlaw16_RegionRuns.f k).bind fun t355 => (some t355)) else (some false)) else (some false)) else (some false))))) else (some false)) = some r := H
      have A12 := Aside0.mk A120
      clear A120
      by_cases c13 : t346 = t347
      · rw [if_pos c13] at H
        have c13b0 : (t346 == t347) = true := beq_iff_eq.mpr c13
        have c13b1 : (t346 != t347) = false := bne_eq_false_iff_eq.mpr c13
        clear c13
        replace H := Option.bind_eq_some_iff.mp H
        obtain ⟨t348, A140, H⟩ := H
        replace H : ((salvorref16_NewRegions.f a1).bind fun t351 => ((salvorref16_SameRegions.f k t348 t351).bind fun t354 => (if t354 = true then (if (t334 == t339 && (t335 == t340 && (t336 == t341))) = true then (if (t337 == t342) = true then ((salvorlaw16_RegionRuns.f k).bind fun t355 => (some t355)) else (some false)) else (some false)) else (some false)))) = some r := H
        have A14 := Aside0.mk A140
        clear A140
        replace H := Option.bind_eq_some_iff.mp H
        obtain ⟨t351, A150, H⟩ := H
        replace H : ((salvorref16_SameRegions.f k t348 t351).bind fun t354 => (if t354 = true then (if (t334 == t339 && (t335 == t340 && (t336 == t341))) = true then (if (t337 == t342) = true then ((salvorlaw16_RegionRuns.f k).bind fun t355 => (some t355)) else (some false)) else (some false)) else (some false))) = some r := H
        have A15 := Aside0.mk A150
        clear A150
        replace H := Option.bind_eq_some_iff.mp H
        obtain ⟨t354, A160, H⟩ := H
        replace H : (if t354 = true then (if (t334 == t339 && (t335 == t340 && (t336 == t341))) = true then (if (t337 == t342) = true then ((salvorlaw16_RegionRuns.f k).bind fun t355 => (some t355)) else (some false)) else (some false)) else (some false)) = some r := H
        have A16 := Aside0.mk A160
        clear A160
        by_cases c17 : t354 = true
        · subst c17
          have H1 : (if (t334 == t339 && (t335 == t340 && (t336 == t341))) = true then (if (t337 == t342) = true then ((salvorlaw16_RegionRuns.f k).bind fun t355 => (some t355)) else (some false)) else (some false)) = some r := by rw [if_pos rfl] at H; exact H
          clear H
          have H := H1
          clear H1
          by_cases c18 : (t334 == t339 && (t335 == t340 && (t336 == t341))) = true
          · rw [if_pos c18] at H
            have c18b0 : (t334 == t339 && (t335 == t340 && (t336 == t341))) = true := c18
            (try (have c18b1 : decide (t334 = t339 && (t335 == t340 && (t336 == t341))) = true := by simpa using c18))
            (try (have c18b2 : (t334 == t339 && (t335 == t340 && (t336 == t341))) = true := by simpa using c18))
            clear c18
            by_cases c19 : (t337 == t342) = true
            · rw [if_pos c19] at H
              have c19b0 : (t337 == t342) = true := c19
              (try (have c19b1 : decide (t337 = t342) = true := by simpa using c19))
              (try (have c19b2 : (t337 == t342) = true := by simpa using c19))
              clear c19
              replace H := Option.bind_eq_some_iff.mp H
              obtain ⟨t355, A200, H⟩ := H
              replace H : (some t355) = some r := H
              have A20 := Aside0.mk A200
              clear A200
              obtain rfl := Option.some.inj H
              go_enter Try.func7, Try.ntmps7
              go_wp2_with (first | ((with_reducible refine gate_callee (f := 17) rfl ?_); refine goesL_ (some 12) rfl rfl Try.func17 (by kernel_rfl) rfl #[.slice A0 l0.length c0] rfl (by (try simp only [List.map_toArray, List.map_cons, List.map_nil]); first | done | rfl | (simp only [List.length_drop, List.length_take]; rfl)) ?_; (with_reducible refine (salvorlaw16_Few.calls _ _ l0 true _ ?side1 ?side2 A4.out).mono ?_); (case side1 => repeat (first | exact HR0.out | (with_reducible refine Kd.C_alloc ?_ _) | (with_reducible refine Kd.C_drewN ?_ _) | (with_reducible refine Kd.C_drew ?_))); (case side2 => exact HC0.out); rintro e w' ⟨rfl, ⟨nd, rfl⟩⟩; refine ⟨_, rfl, ?_⟩) | ((with_reducible refine gate_callee (f := 25) rfl ?_); refine goesL_ (some 18) rfl rfl Try.func25 (by kernel_rfl) rfl #[.slice A0 l0.length c0, .int .i64 a2] rfl (by (try simp only [List.map_toArray, List.map_cons, List.map_nil]); first | done | rfl | (simp only [List.length_drop, List.length_take]; rfl)) ?_; (with_reducible refine (region_At.calls k _ _ l0 a2 t334 t335 t336 t337 _ ?side1 ?side2 A6.out).mono ?_); (case side1 => repeat (first | exact HR0.out | (with_reducible refine Kd.C_alloc ?_ _) | (with_reducible refine Kd.C_drewN ?_ _) | (with_reducible refine Kd.C_drew ?_))); (case side2 => exact HC0.out); rintro e w21 ⟨rfl, hb⟩; refine ⟨_, rfl, ?_⟩; have n0_ := Aside0.mk (below_step (by repeat (first | (with_reducible first | exact HB.out | apply below_alloc | apply pw_below_drewN | apply below_drew1) | exact HB.out)) hb); clear HB; have HB := n0_; clear n0_; (try clear hb); (try clear hb2); (try clear hk); (try clear hi)) | ((with_reducible refine gate_dst (N := 7) rfl ?_); refine box_event ?hg (N := 7) ?hd (cs := #[.int .i64 0, .int .i64 0, .int .u8 0]) (t := 26) ?hr ?_; (case hd => rfl); (case hg => rfl); (case hr => first | (go_simp; done) | (go_simp; rfl)); intro gb338 hg w22 hbox hb; have n0_ := Aside0.mk (below_step (by repeat (first | (with_reducible first | exact HB.out | apply below_alloc | apply pw_below_drewN | apply below_drew1) | exact HB.out)) hb); have n1_ := Aside0.mk (hbox); have n2_ := Aside0.mk ((by rw [hg]; exact (below_size (by repeat (first | (with_reducible first | exact HB.out | apply below_alloc | apply pw_below_drewN | apply below_drew1) | exact HB.out))) : w.heap.size ≤ gb338)); have n3_ := Aside0.mk ((by rw [hg]; exact (below_size (by repeat (first | (with_reducible first | exact HB.out | apply below_alloc | apply pw_below_drewN | apply below_drew1) | exact HB.out))) : w.heap.size ≤ gb338)); clear HB; have HB := n0_; have BK338 := n1_; have GW338 := n2_; have GE338 := n3_; clear n0_ n1_ n2_ n3_; clear hb hbox hg; have hcz23_0 : w22.cell? ⟨gb338, 0, none⟩ = some (.int .i64 0) := (blk_cell BK338.out 0).trans rfl; have hcz23_1 : w22.cell? ⟨gb338, 1, none⟩ = some (.int .i64 0) := (blk_cell BK338.out 1).trans rfl; have hcz23_2 : w22.cell? ⟨gb338, 2, none⟩ = some (.int .u8 0) := (blk_cell BK338.out 2).trans rfl; have hfz23_0 := blk_frozen BK338.out 0; have hfz23_1 := blk_frozen BK338.out 1; have hfz23_2 := blk_frozen BK338.out 2) | ((with_reducible refine gate_callee (f := 26) rfl ?_); refine goesL_ (some 24) rfl rfl Try.func26 (by kernel_rfl) rfl #[.slice A0 l0.length c0, .int .i64 a2] rfl (by (try simp only [List.map_toArray, List.map_cons, List.map_nil]); first | done | rfl | (simp only [List.length_drop, List.length_take]; rfl)) ?_; (with_reducible refine (salvorref16_At.calls k _ _ l0 a2 t339 t340 t341 t342 _ ?side1 ?side2 A7.out).mono ?_); (case side1 => exact Kd.C_below HR0.out (by repeat (first | (with_reducible first | exact HB.out | apply below_alloc | apply pw_below_drewN | apply below_drew1 | refine below_set ?_ GE338.out) | exact HB.out))); (case side2 => exact HC0.out); rintro e w24 ⟨rfl, hb⟩; refine ⟨_, rfl, ?_⟩; have n0_ := Aside0.mk (blk_below (g := gb338) (o := .cells #[.int .i64 t334, .int .i64 t335, .int .u8 t336] 26 (0, 0)) (by (with_reducible repeat (first | refine blk_drewN ?_ _ | refine blk_drew ?_ | refine blk_alloc ?_ _)); refine blk_put (cs := #[.int .i64 t334, .int .i64 t335, .int .u8 0]) ?_ 2 _ rfl; (with_reducible repeat (first | refine blk_drewN ?_ _ | refine blk_drew ?_ | refine blk_alloc ?_ _)); refine blk_put (cs := #[.int .i64 t334, .int .i64 0, .int .u8 0]) ?_ 1 _ rfl; (with_reducible repeat (first | refine blk_drewN ?_ _ | refine blk_drew ?_ | refine blk_alloc ?_ _)); refine blk_put (cs := #[.int .i64 0, .int .i64 0, .int .u8 0]) ?_ 0 _ rfl; (with_reducible repeat (first | refine blk_drewN ?_ _ | refine blk_drew ?_ | refine blk_alloc ?_ _)); exact BK338.out) hb); have n1_ := Aside0.mk (below_step (by repeat (first | (with_reducible first | exact HB.out | apply below_alloc | apply pw_below_drewN | apply below_drew1 | refine below_set ?_ GE338.out) | exact HB.out)) hb); clear BK338; clear HB; have BK338 := n0_; have HB := n1_; clear n0_ n1_; (try clear hb); (try clear hb2); (try clear hk); (try clear hi)) | ((with_reducible refine gate_dst (N := 9) rfl ?_); refine box_event ?hg (N := 9) ?hd (cs := #[.int .i64 0, .int .i64 0, .int .u8 0]) (t := 26) ?hr ?_; (case hd => rfl); (case hg => rfl); (case hr => first | (go_simp; done) | (go_simp; rfl)); intro gb343 hg w25 hbox hb; have n0_ := Aside0.mk (blk_below (g := gb338) (o := .cells #[.int .i64 t334, .int .i64 t335, .int .u8 t336] 26 (0, 0)) (by (with_reducible repeat (first | refine blk_drewN ?_ _ | refine blk_drew ?_ | refine blk_alloc ?_ _)); exact BK338.out) hb); have n1_ := Aside0.mk (below_step (by repeat (first | (with_reducible first | exact HB.out | apply below_alloc | apply pw_below_drewN | apply below_drew1 | refine below_set ?_ GE338.out) | exact HB.out)) hb); have n2_ := Aside0.mk (hbox); have n3_ := Aside0.mk ((by rw [hg]; exact (below_size (by repeat (first | (with_reducible first | exact HB.out | apply below_alloc | apply pw_below_drewN | apply below_drew1 | refine below_set ?_ GE338.out) | exact HB.out))) : w.heap.size ≤ gb343)); have n4_ := Aside0.mk ((by rw [hg]; exact (below_size (by repeat (first | (with_reducible first | exact HB.out | apply below_alloc | apply pw_below_drewN | apply below_drew1 | refine below_set ?_ GE338.out) | exact HB.out))) : w.heap.size ≤ gb343)); have n5_ := Aside0.mk ((by rw [hg]; exact Nat.ne_of_lt (blk_lt (g := gb338) (o := .cells #[.int .i64 t334, .int .i64 t335, .int .u8 t336] 26 (0, 0)) (by (with_reducible repeat (first | refine blk_drewN ?_ _ | refine blk_drew ?_ | refine blk_alloc ?_ _)); exact BK338.out)) : gb338 ≠ gb343)); have n6_ := Aside0.mk ((by rw [hg]; exact Nat.ne_of_gt (blk_lt (g := gb338) (o := .cells #[.int .i64 t334, .int .i64 t335, .int .u8 t336] 26 (0, 0)) (by (with_reducible repeat (first | refine blk_drewN ?_ _ | refine blk_drew ?_ | refine blk_alloc ?_ _)); exact BK338.out)) : gb343 ≠ gb338)); clear BK338; clear HB; have BK338 := n0_; have HB := n1_; have BK343 := n2_; have GW343 := n3_; have GE343 := n4_; have NB338_343 := n5_; have NB343_338 := n6_; clear n0_ n1_ n2_ n3_ n4_ n5_ n6_; clear hb hbox hg; have hnb26 := NB343_338.out; have hnc26 := NB338_343.out; have hcz27_0 : w25.cell? ⟨gb343, 0, none⟩ = some (.int .i64 0) := (blk_cell BK343.out 0).trans rfl; have hcz27_1 : w25.cell? ⟨gb343, 1, none⟩ = some (.int .i64 0) := (blk_cell BK343.out 1).trans rfl; have hcz27_2 : w25.cell? ⟨gb343, 2, none⟩ = some (.int .u8 0) := (blk_cell BK343.out 2).trans rfl; have hfz27_0 := blk_frozen BK343.out 0; have hfz27_1 := blk_frozen BK343.out 1; have hfz27_2 := blk_frozen BK343.out 2) | ((with_reducible refine gate_callee (f := 16) rfl ?_); refine goesL_ (some 28) rfl rfl Try.func16 (by kernel_rfl) rfl #[.slice A0 l0.length c0] rfl (by (try simp only [List.map_toArray, List.map_cons, List.map_nil]); first | done | rfl | (simp only [List.length_drop, List.length_take]; rfl)) ?_; (with_reducible refine (region_May.calls k _ _ l0 t344 _ ?side1 ?side2 A8.out).mono ?_); (case side1 => exact Kd.C_below HR0.out (by repeat (first | (with_reducible first | exact HB.out | apply below_alloc | apply pw_below_drewN | apply below_drew1 | refine below_set ?_ GE338.out | refine below_set ?_ GE343.out) | exact HB.out))); (case side2 => exact HC0.out); rintro e w28 ⟨rfl, hb⟩; refine ⟨_, rfl, ?_⟩; have n0_ := Aside0.mk (blk_below (g := gb338) (o := .cells #[.int .i64 t334, .int .i64 t335, .int .u8 t336] 26 (0, 0)) (by (with_reducible repeat (first | refine blk_drewN ?_ _ | refine blk_drew ?_ | refine blk_alloc ?_ _)); refine blk_far ?_ NB338_343.out _; (with_reducible repeat (first | refine blk_drewN ?_ _ | refine blk_drew ?_ | refine blk_alloc ?_ _)); refine blk_far ?_ NB338_343.out _; (with_reducible repeat (first | refine blk_drewN ?_ _ | refine blk_drew ?_ | refine blk_alloc ?_ _)); refine blk_far ?_ NB338_343.out _; (with_reducible repeat (first | refine blk_drewN ?_ _ | refine blk_drew ?_ | refine blk_alloc ?_ _)); exact BK338.out) hb); have n1_ := Aside0.mk (blk_below (g := gb343) (o := .cells #[.int .i64 t339, .int .i64 t340, .int .u8 t341] 26 (0, 0)) (by (with_reducible repeat (first | refine blk_drewN ?_ _ | refine blk_drew ?_ | refine blk_alloc ?_ _)); refine blk_put (cs := #[.int .i64 t339, .int .i64 t340, .int .u8 0]) ?_ 2 _ rfl; (with_reducible repeat (first | refine blk_drewN ?_ _ | refine blk_drew ?_ | refine blk_alloc ?_ _)); refine blk_put (cs := #[.int .i64 t339, .int .i64 0, .int .u8 0]) ?_ 1 _ rfl; (with_reducible repeat (first | refine blk_drewN ?_ _ | refine blk_drew ?_ | refine blk_alloc ?_ _)); refine blk_put (cs := #[.int .i64 0, .int .i64 0, .int .u8 0]) ?_ 0 _ rfl; (with_reducible repeat (first | refine blk_drewN ?_ _ | refine blk_drew ?_ | refine blk_alloc ?_ _)); exact BK343.out) hb); have n2_ := Aside0.mk (below_step (by repeat (first | (with_reducible first | exact HB.out | apply below_alloc | apply pw_below_drewN | apply below_drew1 | refine below_set ?_ GE338.out | refine below_set ?_ GE343.out) | exact HB.out)) hb); clear BK338; clear BK343; clear HB; have BK338 := n0_; have BK343 := n1_; have HB := n2_; clear n0_ n1_ n2_; (try clear hb); (try clear hb2); (try clear hk); (try clear hi)) | ((with_reducible refine gate_callee (f := 27) rfl ?_); refine goesL_ (some 30) rfl rfl Try.func27 (by kernel_rfl) rfl #[.slice A0 l0.length c0] rfl (by (try simp only [List.map_toArray, List.map_cons, List.map_nil]); first | done | rfl | (simp only [List.length_drop, List.length_take]; rfl)) ?_; (with_reducible refine (salvorref16_MayRegions.calls k _ _ l0 t345 _ ?side1 ?side2 A9.out).mono ?_); (case side1 => repeat (first | exact (Kd.C_below HR0.out HB.out) | (with_reducible refine Kd.C_alloc ?_ _) | (with_reducible refine Kd.C_drewN ?_ _) | (with_reducible refine Kd.C_drew ?_))); (case side2 => exact HC0.out); rintro e w29 ⟨rfl, hb⟩; refine ⟨_, rfl, ?_⟩; have n0_ := Aside0.mk (blk_below (g := gb338) (o := .cells #[.int .i64 t334, .int .i64 t335, .int .u8 t336] 26 (0, 0)) (by (with_reducible repeat (first | refine blk_drewN ?_ _ | refine blk_drew ?_ | refine blk_alloc ?_ _)); exact BK338.out) hb); have n1_ := Aside0.mk (blk_below (g := gb343) (o := .cells #[.int .i64 t339, .int .i64 t340, .int .u8 t341] 26 (0, 0)) (by (with_reducible repeat (first | refine blk_drewN ?_ _ | refine blk_drew ?_ | refine blk_alloc ?_ _)); exact BK343.out) hb); have n2_ := Aside0.mk (below_step (by repeat (first | (with_reducible first | exact HB.out | apply below_alloc | apply pw_below_drewN | apply below_drew1 | refine below_set ?_ GE338.out | refine below_set ?_ GE343.out) | exact HB.out)) hb); clear BK338; clear BK343; clear HB; have BK338 := n0_; have BK343 := n1_; have HB := n2_; clear n0_ n1_ n2_; (try clear hb); (try clear hb2); (try clear hk); (try clear hi)) | (go_at_call 14; (with_reducible refine (region_End.calls k _ _ l0 t346 _ ?side1 ?side2 A11.out).mono ?_); (case side1 => repeat (first | exact (Kd.C_below HR0.out HB.out) | (with_reducible refine Kd.C_alloc ?_ _) | (with_reducible refine Kd.C_drewN ?_ _) | (with_reducible refine Kd.C_drew ?_))); (case side2 => exact HC0.out); rintro e w30 ⟨rfl, hb⟩; have n0_ := Aside0.mk (blk_below (g := gb338) (o := .cells #[.int .i64 t334, .int .i64 t335, .int .u8 t336] 26 (0, 0)) (by (with_reducible repeat (first | refine blk_drewN ?_ _ | refine blk_drew ?_ | refine blk_alloc ?_ _)); exact BK338.out) hb); have n1_ := Aside0.mk (blk_below (g := gb343) (o := .cells #[.int .i64 t339, .int .i64 t340, .int .u8 t341] 26 (0, 0)) (by (with_reducible repeat (first | refine blk_drewN ?_ _ | refine blk_drew ?_ | refine blk_alloc ?_ _)); exact BK343.out) hb); have n2_ := Aside0.mk (below_step (by repeat (first | (with_reducible first | exact HB.out | apply below_alloc | apply pw_below_drewN | apply below_drew1 | refine below_set ?_ GE338.out | refine below_set ?_ GE343.out) | exact HB.out)) hb); clear BK338; clear BK343; clear HB; have BK338 := n0_; have BK343 := n1_; have HB := n2_; clear n0_ n1_ n2_; (try clear hb); (try clear hb2); (try clear hk); (try clear hi)) | (go_at_call 28; (with_reducible refine (salvorref16_End.calls k _ _ l0 t347 _ ?side1 ?side2 A12.out).mono ?_); (case side1 => repeat (first | exact (Kd.C_below HR0.out HB.out) | (with_reducible refine Kd.C_alloc ?_ _) | (with_reducible refine Kd.C_drewN ?_ _) | (with_reducible refine Kd.C_drew ?_))); (case side2 => exact HC0.out); rintro e w31 ⟨rfl, hb⟩; have n0_ := Aside0.mk (blk_below (g := gb338) (o := .cells #[.int .i64 t334, .int .i64 t335, .int .u8 t336] 26 (0, 0)) (by (with_reducible repeat (first | refine blk_drewN ?_ _ | refine blk_drew ?_ | refine blk_alloc ?_ _)); exact BK338.out) hb); have n1_ := Aside0.mk (blk_below (g := gb343) (o := .cells #[.int .i64 t339, .int .i64 t340, .int .u8 t341] 26 (0, 0)) (by (with_reducible repeat (first | refine blk_drewN ?_ _ | refine blk_drew ?_ | refine blk_alloc ?_ _)); exact BK343.out) hb); have n2_ := Aside0.mk (below_step (by repeat (first | (with_reducible first | exact HB.out | apply below_alloc | apply pw_below_drewN | apply below_drew1 | refine below_set ?_ GE338.out | refine below_set ?_ GE343.out) | exact HB.out)) hb); clear BK338; clear BK343; clear HB; have BK338 := n0_; have BK343 := n1_; have HB := n2_; clear n0_ n1_ n2_; (try clear hb); (try clear hb2); (try clear hk); (try clear hi)) | (go_at_call 11; (with_reducible refine (region_New.calls a1 t348 _ A14.out).mono ?_); rintro e w32 ⟨v349, rfl, ho0, hb⟩; have n0_ := Aside0.mk (Kd.R_lower (Kd.R_newB (Kd.R_newB ho0 (g := gb338) (o := .cells #[.int .i64 t334, .int .i64 t335, .int .u8 t336] 26 (0, 0)) (by (with_reducible repeat (first | refine blk_drewN ?_ _ | refine blk_drew ?_ | refine blk_alloc ?_ _)); exact BK338.out)) (g := gb343) (o := .cells #[.int .i64 t339, .int .i64 t340, .int .u8 t341] 26 (0, 0)) (by (with_reducible repeat (first | refine blk_drewN ?_ _ | refine blk_drew ?_ | refine blk_alloc ?_ _)); exact BK343.out)) (below_size (by repeat (first | (with_reducible first | exact HB.out | apply below_alloc | apply pw_below_drewN | apply below_drew1 | refine below_set ?_ GE338.out | refine below_set ?_ GE343.out) | exact HB.out)))); have n1_ := Aside0.mk (blk_below (g := gb338) (o := .cells #[.int .i64 t334, .int .i64 t335, .int .u8 t336] 26 (0, 0)) (by (with_reducible repeat (first | refine blk_drewN ?_ _ | refine blk_drew ?_ | refine blk_alloc ?_ _)); exact BK338.out) hb); have n2_ := Aside0.mk (blk_below (g := gb343) (o := .cells #[.int .i64 t339, .int .i64 t340, .int .u8 t341] 26 (0, 0)) (by (with_reducible repeat (first | refine blk_drewN ?_ _ | refine blk_drew ?_ | refine blk_alloc ?_ _)); exact BK343.out) hb); have n3_ := Aside0.mk (below_step (by repeat (first | (with_reducible first | exact HB.out | apply below_alloc | apply pw_below_drewN | apply below_drew1 | refine below_set ?_ GE338.out | refine below_set ?_ GE343.out) | exact HB.out)) hb); clear BK338; clear BK343; clear HB; have HO350 := n0_; have BK338 := n1_; have BK343 := n2_; have HB := n3_; clear n0_ n1_ n2_ n3_; (try clear hb); (try clear hb2); (try clear hk); (try clear hi); (try clear ho0)) | (go_at_call 29; (with_reducible refine (salvorref16_NewRegions.calls a1 t351 _ A15.out).mono ?_); rintro e w33 ⟨v352, rfl, ho0, hb⟩; have n0_ := Aside0.mk (Kd.R_elder' (by (with_reducible repeat (first | apply Kd.R_alloc | apply Kd.R_drewN | apply Kd.R_drew)); exact HO350.out) (Kd.R_base ho0) hb); have n1_ := Aside0.mk (Kd.R_lower (Kd.R_newB (Kd.R_newB (Kd.R_new' ho0 (Kd.R_lt (by (with_reducible repeat (first | apply Kd.R_alloc | apply Kd.R_drewN | apply Kd.R_drew)); exact HO350.out))) (g := gb338) (o := .cells #[.int .i64 t334, .int .i64 t335, .int .u8 t336] 26 (0, 0)) (by (with_reducible repeat (first | refine blk_drewN ?_ _ | refine blk_drew ?_ | refine blk_alloc ?_ _)); exact BK338.out)) (g := gb343) (o := .cells #[.int .i64 t339, .int .i64 t340, .int .u8 t341] 26 (0, 0)) (by (with_reducible repeat (first | refine blk_drewN ?_ _ | refine blk_drew ?_ | refine blk_alloc ?_ _)); exact BK343.out)) (below_size (by repeat (first | (with_reducible first | exact HB.out | apply below_alloc | apply pw_below_drewN | apply below_drew1 | refine below_set ?_ GE338.out | refine below_set ?_ GE343.out) | exact HB.out)))); have n2_ := Aside0.mk (blk_below (g := gb338) (o := .cells #[.int .i64 t334, .int .i64 t335, .int .u8 t336] 26 (0, 0)) (by (with_reducible repeat (first | refine blk_drewN ?_ _ | refine blk_drew ?_ | refine blk_alloc ?_ _)); exact BK338.out) hb); have n3_ := Aside0.mk (blk_below (g := gb343) (o := .cells #[.int .i64 t339, .int .i64 t340, .int .u8 t341] 26 (0, 0)) (by (with_reducible repeat (first | refine blk_drewN ?_ _ | refine blk_drew ?_ | refine blk_alloc ?_ _)); exact BK343.out) hb); have n4_ := Aside0.mk (below_step (by repeat (first | (with_reducible first | exact HB.out | apply below_alloc | apply pw_below_drewN | apply below_drew1 | refine below_set ?_ GE338.out | refine below_set ?_ GE343.out) | exact HB.out)) hb); clear HO350; clear BK338; clear BK343; clear HB; have HO350 := n0_; have HO353 := n1_; have BK338 := n2_; have BK343 := n3_; have HB := n4_; clear n0_ n1_ n2_ n3_ n4_; (try clear hb); (try clear hb2); (try clear hk); (try clear hi); (try clear ho0); obtain ⟨Ao34, co34, eo34⟩ := Kd.R_slice HO350.out; subst eo34; obtain ⟨Ao35, co35, eo35⟩ := Kd.R_slice HO353.out; subst eo35) | (go_at_call 18; (with_reducible refine (salvorref16_SameRegions.calls k _ _ t348 _ _ t351 true _ ?side1 ?side2 ?side3 ?side4 A16.out).mono ?_); (case side1 => repeat (first | exact (Kd.R_reads' HO350.out).2.2 | (with_reducible refine Kd.C_alloc ?_ _) | (with_reducible refine Kd.C_drewN ?_ _) | (with_reducible refine Kd.C_drew ?_))); (case side2 => exact (Kd.R_reads' HO350.out).2.1); (case side3 => repeat (first | exact (Kd.R_reads' HO353.out).2.2 | (with_reducible refine Kd.C_alloc ?_ _) | (with_reducible refine Kd.C_drewN ?_ _) | (with_reducible refine Kd.C_drew ?_))); (case side4 => exact (Kd.R_reads' HO353.out).2.1); rintro e w' ⟨rfl, ⟨nd, rfl⟩⟩; have hcz36_0 : w33.cell? ⟨gb338, 0, none⟩ = some (.int .i64 t334) := (blk_cell BK338.out 0).trans rfl; have hcz36_1 : w33.cell? ⟨gb338, 1, none⟩ = some (.int .i64 t335) := (blk_cell BK338.out 1).trans rfl; have hcz36_2 : w33.cell? ⟨gb338, 2, none⟩ = some (.int .u8 t336) := (blk_cell BK338.out 2).trans rfl; have hfz36_0 := blk_frozen BK338.out 0; have hfz36_1 := blk_frozen BK338.out 1; have hfz36_2 := blk_frozen BK338.out 2; have hcz37_0 : w33.cell? ⟨gb343, 0, none⟩ = some (.int .i64 t339) := (blk_cell BK343.out 0).trans rfl; have hcz37_1 : w33.cell? ⟨gb343, 1, none⟩ = some (.int .i64 t340) := (blk_cell BK343.out 1).trans rfl; have hcz37_2 : w33.cell? ⟨gb343, 2, none⟩ = some (.int .u8 t341) := (blk_cell BK343.out 2).trans rfl; have hfz37_0 := blk_frozen BK343.out 0; have hfz37_1 := blk_frozen BK343.out 1; have hfz37_2 := blk_frozen BK343.out 2) | (go_at_call 3; (with_reducible refine (salvorlaw16_RegionRuns.calls k  t355 _ A20.out).mono ?_); rintro e w38 ⟨rfl, hb⟩; have n0_ := Aside0.mk (Kd.R_below (by (with_reducible repeat (first | apply Kd.R_alloc | apply Kd.R_drewN | apply Kd.R_drew)); exact HO350.out) hb); have n1_ := Aside0.mk (Kd.R_below (by (with_reducible repeat (first | apply Kd.R_alloc | apply Kd.R_drewN | apply Kd.R_drew)); exact HO353.out) hb); have n2_ := Aside0.mk (blk_below (g := gb338) (o := .cells #[.int .i64 t334, .int .i64 t335, .int .u8 t336] 26 (0, 0)) (by (with_reducible repeat (first | refine blk_drewN ?_ _ | refine blk_drew ?_ | refine blk_alloc ?_ _)); exact BK338.out) hb); have n3_ := Aside0.mk (blk_below (g := gb343) (o := .cells #[.int .i64 t339, .int .i64 t340, .int .u8 t341] 26 (0, 0)) (by (with_reducible repeat (first | refine blk_drewN ?_ _ | refine blk_drew ?_ | refine blk_alloc ?_ _)); exact BK343.out) hb); have n4_ := Aside0.mk (below_step (by repeat (first | (with_reducible first | exact HB.out | apply below_alloc | apply pw_below_drewN | apply below_drew1 | refine below_set ?_ GE338.out | refine below_set ?_ GE343.out) | exact HB.out)) hb); clear HO350; clear HO353; clear BK338; clear BK343; clear HB; have HO350 := n0_; have HO353 := n1_; have BK338 := n2_; have BK343 := n3_; have HB := n4_; clear n0_ n1_ n2_ n3_ n4_; (try clear hb); (try clear hb2); (try clear hk); (try clear hi)))
              go_ret
              exact ⟨by first | rfl | (simp [errW_none, errW_some] <;> rfl) | (simp [*, errW_none, errW_some] <;> rfl), by repeat (first | (with_reducible first | exact HB.out | apply below_alloc | apply pw_below_drewN | apply below_drew1 | refine below_set ?_ GE338.out | refine below_set ?_ GE343.out) | exact HB.out)⟩
            · rw [if_neg c19] at H
              have c19b0 : (t337 == t342) = false := by simpa using c19
              (try (have c19b1 : decide (t337 = t342) = false := by simpa using c19))
              (try (have c19b2 : (t337 == t342) = false := by simpa using c19))
              (try (have c19b3 : ¬ (t337 = t342) := by simpa using c19))
              clear c19
              exact absurd ((Option.some.inj H).trans HT.out) (by simp)
          · rw [if_neg c18] at H
            have c18b0 : (t334 == t339 && (t335 == t340 && (t336 == t341))) = false := by simpa using c18
            (try (have c18b1 : decide (t334 = t339 && (t335 == t340 && (t336 == t341))) = false := by simpa using c18))
            (try (have c18b2 : (t334 == t339 && (t335 == t340 && (t336 == t341))) = false := by simpa using c18))
            (try (have c18b3 : ¬ (t334 = t339 && (t335 == t340 && (t336 == t341))) := by simpa using c18))
            clear c18
            exact absurd ((Option.some.inj H).trans HT.out) (by simp)
        · replace c17 := Bool.eq_false_iff.mpr c17
          subst c17
          have H1 : (some false) = some r := by rw [if_neg (show ¬ (false = true) by decide)] at H; exact H
          clear H
          have H := H1
          clear H1
          exact absurd ((Option.some.inj H).trans HT.out) (by simp)
      · rw [if_neg c13] at H
        have c13b0 : (t346 == t347) = false := beq_eq_false_iff_ne.mpr c13
        have c13b1 : (t346 != t347) = true := bne_iff_ne.mpr c13
        exact absurd ((Option.some.inj H).trans HT.out) (by simp)
    · rw [if_neg c10] at H
      have c10b0 : (t344 == t345) = false := by simpa using c10
      (try (have c10b1 : decide (t344 = t345) = false := by simpa using c10))
      (try (have c10b2 : (t344 == t345) = false := by simpa using c10))
      (try (have c10b3 : ¬ (t344 = t345) := by simpa using c10))
      clear c10
      exact absurd ((Option.some.inj H).trans HT.out) (by simp)
  · replace c5 := Bool.eq_false_iff.mpr c5
    subst c5
    have H1 : ((salvorlaw16_RegionRuns.f k).bind fun t333 => (some t333)) = some r := by rw [if_neg (show ¬ (false = true) by decide)] at H; exact H
    clear H
    have H := H1
    clear H1
    replace H := Option.bind_eq_some_iff.mp H
    obtain ⟨t333, A390, H⟩ := H
    replace H : (some t333) = some r := H
    have A39 := Aside0.mk A390
    clear A390
    obtain rfl := Option.some.inj H
    go_enter Try.func7, Try.ntmps7
    go_wp2_with (first | ((with_reducible refine gate_callee (f := 17) rfl ?_); refine goesL_ (some 12) rfl rfl Try.func17 (by kernel_rfl) rfl #[.slice A0 l0.length c0] rfl (by (try simp only [List.map_toArray, List.map_cons, List.map_nil]); first | done | rfl | (simp only [List.length_drop, List.length_take]; rfl)) ?_; (with_reducible refine (salvorlaw16_Few.calls _ _ l0 false _ ?side1 ?side2 A4.out).mono ?_); (case side1 => repeat (first | exact HR0.out | (with_reducible refine Kd.C_alloc ?_ _) | (with_reducible refine Kd.C_drewN ?_ _) | (with_reducible refine Kd.C_drew ?_))); (case side2 => exact HC0.out); rintro e w' ⟨rfl, ⟨nd, rfl⟩⟩; refine ⟨_, rfl, ?_⟩) | ((with_reducible refine gate_callee (f := 3) rfl ?_); refine goesL_ (some 14) rfl rfl Try.func3 (by kernel_rfl) rfl #[] rfl (by (try simp only [List.map_toArray, List.map_cons, List.map_nil]); first | done | rfl | (simp only [List.length_drop, List.length_take]; rfl)) ?_; (with_reducible refine (salvorlaw16_RegionRuns.calls k  t333 _ A39.out).mono ?_); rintro e w40 ⟨rfl, hb⟩; refine ⟨_, rfl, ?_⟩; have n0_ := Aside0.mk (below_step (by repeat (first | (with_reducible first | exact HB.out | apply below_alloc | apply pw_below_drewN | apply below_drew1) | exact HB.out)) hb); clear HB; have HB := n0_; clear n0_; (try clear hb); (try clear hb2); (try clear hk); (try clear hi)))
    go_ret
    exact ⟨by first | rfl | (simp [errW_none, errW_some] <;> rfl) | (simp [*, errW_none, errW_some] <;> rfl), by repeat (first | (with_reducible first | exact HB.out | apply below_alloc | apply pw_below_drewN | apply below_drew1) | exact HB.out)⟩

end Go.Proofs.Ytjgkfnbfjamccaa.P
