import Derived.Test.YtbmhfnncagncmaaGreatDoorPx16
import Derived.Test.YtbmhfnncagncmaaGreatDoorPx25
namespace Go.Proofs.YtbmhfnncagncmaaGreatDoor.P
open Go.RowKit Go.Proofs.YtbmhfnncagncmaaGreatDoorW.PrintWords Go.Proofs.YtbmhfnncagncmaaGreatDoorW.PrintLast Go.Proofs.YtbmhfnncagncmaaGreatDoorW.PrintMore
attribute [local go_sem] max2_int min2_int max_two min_two max_three min_three max_four min_four
set_option linter.unusedVariables false
set_option linter.unusedSimpArgs false
def salvorref22_num.f (k : Nat) (l0 : List (S68)) (a1 : ByteArray) (a2 a3 a4 : Int) : Option (Int × Bool) := (salvorref6_Find.f k l0 a1).bind fun bt275 => (if bt275.2 = true then ((salvorref1_Get.f k bt275.1).bind fun bt277 => (if bt277.2 = true then (if bt277.1 ≥ a2 then (some (bt277.1, decide (bt277.1 ≤ a3))) else (some (bt277.1, false))) else (some (bt277.1, false)))) else (some (a4, true)))
theorem salvorref22_num.mono : ∀ a0 a1 a2 a3 a4 k, LeO (salvorref22_num.f k a0 a1 a2 a3 a4) (salvorref22_num.f (k + 1) a0 a1 a2 a3 a4) := by
 intro a0 a1 a2 a3 a4 k
 unfold salvorref22_num.f
 repeat' first
   | (with_reducible exact salvorref1_Get.mono _ _)
   | (with_reducible exact salvorref6_Find.mono _ _ _)
   | (with_reducible exact LeO.refl _)
   | (with_reducible exact LeO.none _)
   | (with_reducible refine LeO.ite ?_ ?_)
   | (with_reducible refine LeO.bind ?_ (fun _ => ?_))
   | refine LeO.bind ?_ (fun _ => ?_)
set_option maxHeartbeats 8000000 in
set_option maxRecDepth 100000 in
theorem salvorref22_num.calls (k : Nat) (A0 : Option Addr) (c0 : Nat) (l0 : List (S68)) (a1 : ByteArray) (a2 a3 a4 r1 : Int) (r2 : Bool) (w : World) (hr0 : Kd.C k68 w A0 l0.length l0) (hc0 : l0.length ≤ c0) (h : salvorref22_num.f k l0 a1 a2 a3 a4 = some (r1, r2)) :
  Calls Tryz.prog 23 #[.slice A0 l0.length c0, .string a1, .int .i64 a2, .int .i64 a3, .int .i64 a4] w fun e w' => e = .returned (.tuple #[.int .i64 r1, .bool r2]) ∧ Below w.heap.size w w' := by
 have HR0 := Aside0.mk hr0
 have HC0 := Aside0.mk hc0
 clear hr0 hc0
 have HB := Aside0.mk (Below.refl w.heap.size w)
 have H : ((salvorref6_Find.f k l0 a1).bind fun bt275 => (if bt275.2 = true then ((salvorref1_Get.f k bt275.1).bind fun bt277 => (if bt277.2 = true then (if bt277.1 ≥ a2 then (some (bt277.1, decide (bt277.1 ≤ a3))) else (some (bt277.1, false))) else (some (bt277.1, false)))) else (some (a4, true)))) = some (r1, r2) := h
 clear h
 replace H := Option.bind_eq_some_iff.mp H
 obtain ⟨⟨t275, t276⟩, A60, H⟩ := H
 replace H : (if t276 = true then ((salvorref1_Get.f k t275).bind fun bt277 => (if bt277.2 = true then (if bt277.1 ≥ a2 then (some (bt277.1, decide (bt277.1 ≤ a3))) else (some (bt277.1, false))) else (some (bt277.1, false)))) else (some (a4, true))) = some (r1, r2) := H
 have A6 := Aside0.mk A60
 clear A60
 by_cases c7 : t276 = true
 ·subst c7
  have H1 := H; rw [if_pos rfl] at H1
  clear H
  have H := H1
  clear H1
  replace H := Option.bind_eq_some_iff.mp H
  obtain ⟨⟨t277, t278⟩, A80, H⟩ := H
  replace H : (if t278 = true then (if t277 ≥ a2 then (some (t277, decide (t277 ≤ a3))) else (some (t277, false))) else (some (t277, false))) = some (r1, r2) := H
  have A8 := Aside0.mk A80
  clear A80
  by_cases c9 : t278 = true
  ·subst c9
   have H1 := H; rw [if_pos rfl] at H1
   clear H
   have H := H1
   clear H1
   by_cases c10 : t277 ≥ a2
   ·rw [if_pos c10] at H
    have c10b0 : decide (a2 ≤ t277) = true := decide_eq_true c10
    clear c10
    simp only [Option.some.injEq, Prod.mk.injEq] at H
    obtain ⟨rfl, rfl⟩ := H
    go_enter Tryz.func23, Tryz.ntmps23
    go_wp2_with (first | ((with_reducible refine gate_callee (f := 20) rfl ?_); refine gl_ (some 18) rfl rfl Tryz.func20 (by kernel_rfl) rfl #[.slice A0 l0.length c0, .string a1] rfl ?_; (with_reducible refine (salvorref6_Find.calls k _ _ l0 a1 t275 true _ ?side1 ?side2 A6.out).mono ?_); (case side1 => repeat (first | exact HR0.out | (with_reducible refine Kd.C_alloc ?_ _) | (with_reducible refine Kd.C_drewN ?_ _) | (with_reducible refine Kd.C_drew ?_))); (case side2 => exact HC0.out); rintro e w' ⟨rfl, ⟨nd, rfl⟩⟩; refine ⟨_, rfl, ?_⟩) | ((with_reducible refine gate_callee (f := 49) rfl ?_); refine gl_ (some 26) rfl rfl Tryz.func49 (by kernel_rfl) rfl #[.string t275] rfl ?_; (with_reducible refine (salvorref1_Get.calls k t275 t277 true _ A8.out).mono ?_); rintro e w11 ⟨rfl, hb⟩; refine ⟨_, rfl, ?_⟩; replace HB := bs_ HB hb; (try clear hb)))
    go_ret2
    exact ⟨by first | rfl | (simp [errW_none, errW_some] <;> rfl) | (simp [*, errW_none, errW_some] <;> rfl), bh_ HB⟩
   ·rw [if_neg c10] at H
    have c10b0 : decide (a2 ≤ t277) = false := decide_eq_false c10
    clear c10
    simp only [Option.some.injEq, Prod.mk.injEq] at H
    obtain ⟨rfl, rfl⟩ := H
    go_enter Tryz.func23, Tryz.ntmps23
    go_wp2_with (first | ((with_reducible refine gate_callee (f := 20) rfl ?_); refine gl_ (some 18) rfl rfl Tryz.func20 (by kernel_rfl) rfl #[.slice A0 l0.length c0, .string a1] rfl ?_; (with_reducible refine (salvorref6_Find.calls k _ _ l0 a1 t275 true _ ?side1 ?side2 A6.out).mono ?_); (case side1 => repeat (first | exact HR0.out | (with_reducible refine Kd.C_alloc ?_ _) | (with_reducible refine Kd.C_drewN ?_ _) | (with_reducible refine Kd.C_drew ?_))); (case side2 => exact HC0.out); rintro e w' ⟨rfl, ⟨nd, rfl⟩⟩; refine ⟨_, rfl, ?_⟩) | ((with_reducible refine gate_callee (f := 49) rfl ?_); refine gl_ (some 26) rfl rfl Tryz.func49 (by kernel_rfl) rfl #[.string t275] rfl ?_; (with_reducible refine (salvorref1_Get.calls k t275 t277 true _ A8.out).mono ?_); rintro e w12 ⟨rfl, hb⟩; refine ⟨_, rfl, ?_⟩; replace HB := bs_ HB hb; (try clear hb)))
    go_ret2
    exact ⟨by first | rfl | (simp [errW_none, errW_some] <;> rfl) | (simp [*, errW_none, errW_some] <;> rfl), bh_ HB⟩
  ·replace c9 := Bool.eq_false_iff.mpr c9
   subst c9
   have H1 : (some (t277, false)) = some (r1, r2) := by rw [if_neg (show ¬ (false = true) by decide)] at H; exact H
   clear H
   have H := H1
   clear H1
   simp only [Option.some.injEq, Prod.mk.injEq] at H
   obtain ⟨rfl, rfl⟩ := H
   go_enter Tryz.func23, Tryz.ntmps23
   go_wp2_with (first | ((with_reducible refine gate_callee (f := 20) rfl ?_); refine gl_ (some 18) rfl rfl Tryz.func20 (by kernel_rfl) rfl #[.slice A0 l0.length c0, .string a1] rfl ?_; (with_reducible refine (salvorref6_Find.calls k _ _ l0 a1 t275 true _ ?side1 ?side2 A6.out).mono ?_); (case side1 => repeat (first | exact HR0.out | (with_reducible refine Kd.C_alloc ?_ _) | (with_reducible refine Kd.C_drewN ?_ _) | (with_reducible refine Kd.C_drew ?_))); (case side2 => exact HC0.out); rintro e w' ⟨rfl, ⟨nd, rfl⟩⟩; refine ⟨_, rfl, ?_⟩) | ((with_reducible refine gate_callee (f := 49) rfl ?_); refine gl_ (some 26) rfl rfl Tryz.func49 (by kernel_rfl) rfl #[.string t275] rfl ?_; (with_reducible refine (salvorref1_Get.calls k t275 t277 false _ A8.out).mono ?_); rintro e w13 ⟨rfl, hb⟩; refine ⟨_, rfl, ?_⟩; replace HB := bs_ HB hb; (try clear hb)))
   go_ret2
   exact ⟨by first | rfl | (simp [errW_none, errW_some] <;> rfl) | (simp [*, errW_none, errW_some] <;> rfl), bh_ HB⟩
 ·replace c7 := Bool.eq_false_iff.mpr c7
  subst c7
  have H1 : (some (a4, true)) = some (r1, r2) := by rw [if_neg (show ¬ (false = true) by decide)] at H; exact H
  clear H
  have H := H1
  clear H1
  simp only [Option.some.injEq, Prod.mk.injEq] at H
  obtain ⟨rfl, rfl⟩ := H
  go_enter Tryz.func23, Tryz.ntmps23
  go_wp2_with (first | ((with_reducible refine gate_callee (f := 20) rfl ?_); refine gl_ (some 18) rfl rfl Tryz.func20 (by kernel_rfl) rfl #[.slice A0 l0.length c0, .string a1] rfl ?_; (with_reducible refine (salvorref6_Find.calls k _ _ l0 a1 t275 false _ ?side1 ?side2 A6.out).mono ?_); (case side1 => repeat (first | exact HR0.out | (with_reducible refine Kd.C_alloc ?_ _) | (with_reducible refine Kd.C_drewN ?_ _) | (with_reducible refine Kd.C_drew ?_))); (case side2 => exact HC0.out); rintro e w' ⟨rfl, ⟨nd, rfl⟩⟩; refine ⟨_, rfl, ?_⟩))
  go_ret2
  exact ⟨by first | rfl | (simp [errW_none, errW_some] <;> rfl) | (simp [*, errW_none, errW_some] <;> rfl), bh_ HB⟩
def salvorref6_one.f (a0 : Bool) : Option (Int) := if a0 = true then (some 1) else (some 0)
set_option maxHeartbeats 8000000 in
set_option maxRecDepth 100000 in
theorem salvorref6_one.calls (a0 : Bool) (r : Int) (w : World) (h : salvorref6_one.f a0 = some r) :
    Calls Tryz.prog 51 #[.bool a0] w fun e w' => e = .returned (.int .i64 r) ∧ Drawn0 w w' := by
  have H : (if a0 = true then (some 1) else (some 0)) = some r := h
  clear h
  by_cases c2 : a0 = true
  · subst c2
    have H1 := H; rw [if_pos rfl] at H1
    clear H
    have H := H1
    clear H1
    obtain rfl := Option.some.inj H
    go_enter Tryz.func51, Tryz.ntmps51
    go_wp2
    go_ret
    exact ⟨by first | rfl | (simp; done) | (simp [*]; done), by repeat (first | exact Drawn0.refl _ | apply Drawn0.step)⟩
  · replace c2 := Bool.eq_false_iff.mpr c2
    subst c2
    have H1 : (some 0) = some r := by rw [if_neg (show ¬ (false = true) by decide)] at H; exact H
    clear H
    have H := H1
    clear H1
    obtain rfl := Option.some.inj H
    go_enter Tryz.func51, Tryz.ntmps51
    go_wp2
    go_ret
    exact ⟨by first | rfl | (simp; done) | (simp [*]; done), by repeat (first | exact Drawn0.refl _ | apply Drawn0.step)⟩
def salvorref6_Blocks.f (a0_0 a0_1 a0_2 a0_3 a0_4 a0_5 a0_6 a0_7 : Bool) (a0_8 : Int) : Option (Bool) := if a0_1 = true then (some true) else (if a0_6 = true then (some true) else (some a0_7))
set_option maxHeartbeats 8000000 in
set_option maxRecDepth 100000 in
theorem salvorref6_Blocks.calls (a0_0 a0_1 a0_2 a0_3 a0_4 a0_5 a0_6 a0_7 : Bool) (a0_8 : Int) (r : Bool) (w : World) (h : salvorref6_Blocks.f a0_0 a0_1 a0_2 a0_3 a0_4 a0_5 a0_6 a0_7 a0_8 = some r) :
  Calls Tryz.prog 52 #[.agg #[.bool a0_0, .bool a0_1, .bool a0_2, .bool a0_3, .bool a0_4, .bool a0_5, .bool a0_6, .bool a0_7, .int .i64 a0_8]] w fun e w' => e = .returned (.bool r) ∧ Below w.heap.size w w' := by
 have hu26 := Tryz.underlying26
 have HB := Aside0.mk (Below.refl w.heap.size w)
 have H : (if a0_1 = true then (some true) else (if a0_6 = true then (some true) else (some a0_7))) = some r := h
 clear h
 by_cases c2 : a0_1 = true
 ·subst c2
  have H1 := H; rw [if_pos rfl] at H1
  clear H
  have H := H1
  clear H1
  obtain rfl := Option.some.inj H
  go_enter Tryz.func52, Tryz.ntmps52
  go_wp2_with (first | ((with_reducible refine gate_dst (N := 1) rfl ?_); refine box_e 1 #[.bool a0_0, .bool true, .bool a0_2, .bool a0_3, .bool a0_4, .bool a0_5, .bool a0_6, .bool a0_7, .int .i64 a0_8] 26 ?_; intro gb279 hg w3 hbox hb; have BK279 := Aside0.mk hbox; have GW279 := bg_ HB hg; have GE279 := bg_ HB hg; replace HB := bs_ HB hb; clear hb hbox hg; have hcz4_0 : w3.cell? ⟨gb279, 0, none⟩ = some (.bool a0_0) := (blk_cell BK279.out 0).trans rfl; have hcz4_1 : w3.cell? ⟨gb279, 1, none⟩ = some (.bool true) := (blk_cell BK279.out 1).trans rfl; have hcz4_2 : w3.cell? ⟨gb279, 2, none⟩ = some (.bool a0_2) := (blk_cell BK279.out 2).trans rfl; have hcz4_3 : w3.cell? ⟨gb279, 3, none⟩ = some (.bool a0_3) := (blk_cell BK279.out 3).trans rfl; have hcz4_4 : w3.cell? ⟨gb279, 4, none⟩ = some (.bool a0_4) := (blk_cell BK279.out 4).trans rfl; have hcz4_5 : w3.cell? ⟨gb279, 5, none⟩ = some (.bool a0_5) := (blk_cell BK279.out 5).trans rfl; have hcz4_6 : w3.cell? ⟨gb279, 6, none⟩ = some (.bool a0_6) := (blk_cell BK279.out 6).trans rfl; have hcz4_7 : w3.cell? ⟨gb279, 7, none⟩ = some (.bool a0_7) := (blk_cell BK279.out 7).trans rfl; have hcz4_8 : w3.cell? ⟨gb279, 8, none⟩ = some (.int .i64 a0_8) := (blk_cell BK279.out 8).trans rfl; have hfz4_0 := blk_frozen BK279.out 0; have hfz4_1 := blk_frozen BK279.out 1; have hfz4_2 := blk_frozen BK279.out 2; have hfz4_3 := blk_frozen BK279.out 3; have hfz4_4 := blk_frozen BK279.out 4; have hfz4_5 := blk_frozen BK279.out 5; have hfz4_6 := blk_frozen BK279.out 6; have hfz4_7 := blk_frozen BK279.out 7; have hfz4_8 := blk_frozen BK279.out 8))
  go_ret
  exact ⟨by first | rfl | (simp [errW_none, errW_some] <;> rfl) | (simp [*, errW_none, errW_some] <;> rfl), bh_ HB⟩
 ·replace c2 := Bool.eq_false_iff.mpr c2
  subst c2
  have H1 : (if a0_6 = true then (some true) else (some a0_7)) = some r := by rw [if_neg (show ¬ (false = true) by decide)] at H; exact H
  clear H
  have H := H1
  clear H1
  by_cases c5 : a0_6 = true
  ·subst c5
   have H1 := H; rw [if_pos rfl] at H1
   clear H
   have H := H1
   clear H1
   obtain rfl := Option.some.inj H
   go_enter Tryz.func52, Tryz.ntmps52
   go_wp2_with (first | ((with_reducible refine gate_dst (N := 1) rfl ?_); refine box_e 1 #[.bool a0_0, .bool false, .bool a0_2, .bool a0_3, .bool a0_4, .bool a0_5, .bool true, .bool a0_7, .int .i64 a0_8] 26 ?_; intro gb279 hg w6 hbox hb; have BK279 := Aside0.mk hbox; have GW279 := bg_ HB hg; have GE279 := bg_ HB hg; replace HB := bs_ HB hb; clear hb hbox hg; have hcz7_0 : w6.cell? ⟨gb279, 0, none⟩ = some (.bool a0_0) := (blk_cell BK279.out 0).trans rfl; have hcz7_1 : w6.cell? ⟨gb279, 1, none⟩ = some (.bool false) := (blk_cell BK279.out 1).trans rfl; have hcz7_2 : w6.cell? ⟨gb279, 2, none⟩ = some (.bool a0_2) := (blk_cell BK279.out 2).trans rfl; have hcz7_3 : w6.cell? ⟨gb279, 3, none⟩ = some (.bool a0_3) := (blk_cell BK279.out 3).trans rfl; have hcz7_4 : w6.cell? ⟨gb279, 4, none⟩ = some (.bool a0_4) := (blk_cell BK279.out 4).trans rfl; have hcz7_5 : w6.cell? ⟨gb279, 5, none⟩ = some (.bool a0_5) := (blk_cell BK279.out 5).trans rfl; have hcz7_6 : w6.cell? ⟨gb279, 6, none⟩ = some (.bool true) := (blk_cell BK279.out 6).trans rfl; have hcz7_7 : w6.cell? ⟨gb279, 7, none⟩ = some (.bool a0_7) := (blk_cell BK279.out 7).trans rfl; have hcz7_8 : w6.cell? ⟨gb279, 8, none⟩ = some (.int .i64 a0_8) := (blk_cell BK279.out 8).trans rfl; have hfz7_0 := blk_frozen BK279.out 0; have hfz7_1 := blk_frozen BK279.out 1; have hfz7_2 := blk_frozen BK279.out 2; have hfz7_3 := blk_frozen BK279.out 3; have hfz7_4 := blk_frozen BK279.out 4; have hfz7_5 := blk_frozen BK279.out 5; have hfz7_6 := blk_frozen BK279.out 6; have hfz7_7 := blk_frozen BK279.out 7; have hfz7_8 := blk_frozen BK279.out 8))
   go_ret
   exact ⟨by first | rfl | (simp [errW_none, errW_some] <;> rfl) | (simp [*, errW_none, errW_some] <;> rfl), bh_ HB⟩
  ·replace c5 := Bool.eq_false_iff.mpr c5
   subst c5
   have H1 : (some a0_7) = some r := by rw [if_neg (show ¬ (false = true) by decide)] at H; exact H
   clear H
   have H := H1
   clear H1
   obtain rfl := Option.some.inj H
   go_enter Tryz.func52, Tryz.ntmps52
   go_wp2_with (first | ((with_reducible refine gate_dst (N := 1) rfl ?_); refine box_e 1 #[.bool a0_0, .bool false, .bool a0_2, .bool a0_3, .bool a0_4, .bool a0_5, .bool false, .bool a0_7, .int .i64 a0_8] 26 ?_; intro gb279 hg w8 hbox hb; have BK279 := Aside0.mk hbox; have GW279 := bg_ HB hg; have GE279 := bg_ HB hg; replace HB := bs_ HB hb; clear hb hbox hg; have hcz9_0 : w8.cell? ⟨gb279, 0, none⟩ = some (.bool a0_0) := (blk_cell BK279.out 0).trans rfl; have hcz9_1 : w8.cell? ⟨gb279, 1, none⟩ = some (.bool false) := (blk_cell BK279.out 1).trans rfl; have hcz9_2 : w8.cell? ⟨gb279, 2, none⟩ = some (.bool a0_2) := (blk_cell BK279.out 2).trans rfl; have hcz9_3 : w8.cell? ⟨gb279, 3, none⟩ = some (.bool a0_3) := (blk_cell BK279.out 3).trans rfl; have hcz9_4 : w8.cell? ⟨gb279, 4, none⟩ = some (.bool a0_4) := (blk_cell BK279.out 4).trans rfl; have hcz9_5 : w8.cell? ⟨gb279, 5, none⟩ = some (.bool a0_5) := (blk_cell BK279.out 5).trans rfl; have hcz9_6 : w8.cell? ⟨gb279, 6, none⟩ = some (.bool false) := (blk_cell BK279.out 6).trans rfl; have hcz9_7 : w8.cell? ⟨gb279, 7, none⟩ = some (.bool a0_7) := (blk_cell BK279.out 7).trans rfl; have hcz9_8 : w8.cell? ⟨gb279, 8, none⟩ = some (.int .i64 a0_8) := (blk_cell BK279.out 8).trans rfl; have hfz9_0 := blk_frozen BK279.out 0; have hfz9_1 := blk_frozen BK279.out 1; have hfz9_2 := blk_frozen BK279.out 2; have hfz9_3 := blk_frozen BK279.out 3; have hfz9_4 := blk_frozen BK279.out 4; have hfz9_5 := blk_frozen BK279.out 5; have hfz9_6 := blk_frozen BK279.out 6; have hfz9_7 := blk_frozen BK279.out 7; have hfz9_8 := blk_frozen BK279.out 8))
   go_ret
   exact ⟨by first | rfl | (simp [errW_none, errW_some] <;> rfl) | (simp [*, errW_none, errW_some] <;> rfl), bh_ HB⟩
def salvorref6_Unblocks.f (a0_0 a0_1 a0_2 a0_3 a0_4 a0_5 a0_6 a0_7 : Bool) (a0_8 : Int) : Option (Bool) := if a0_2 = true then (some true) else (some a0_5)
set_option maxHeartbeats 8000000 in
set_option maxRecDepth 100000 in
theorem salvorref6_Unblocks.calls (a0_0 a0_1 a0_2 a0_3 a0_4 a0_5 a0_6 a0_7 : Bool) (a0_8 : Int) (r : Bool) (w : World) (h : salvorref6_Unblocks.f a0_0 a0_1 a0_2 a0_3 a0_4 a0_5 a0_6 a0_7 a0_8 = some r) :
  Calls Tryz.prog 53 #[.agg #[.bool a0_0, .bool a0_1, .bool a0_2, .bool a0_3, .bool a0_4, .bool a0_5, .bool a0_6, .bool a0_7, .int .i64 a0_8]] w fun e w' => e = .returned (.bool r) ∧ Below w.heap.size w w' := by
 have hu26 := Tryz.underlying26
 have HB := Aside0.mk (Below.refl w.heap.size w)
 have H : (if a0_2 = true then (some true) else (some a0_5)) = some r := h
 clear h
 by_cases c2 : a0_2 = true
 ·subst c2
  have H1 := H; rw [if_pos rfl] at H1
  clear H
  have H := H1
  clear H1
  obtain rfl := Option.some.inj H
  go_enter Tryz.func53, Tryz.ntmps53
  go_wp2_with (first | ((with_reducible refine gate_dst (N := 1) rfl ?_); refine box_e 1 #[.bool a0_0, .bool a0_1, .bool true, .bool a0_3, .bool a0_4, .bool a0_5, .bool a0_6, .bool a0_7, .int .i64 a0_8] 26 ?_; intro gb280 hg w3 hbox hb; have BK280 := Aside0.mk hbox; have GW280 := bg_ HB hg; have GE280 := bg_ HB hg; replace HB := bs_ HB hb; clear hb hbox hg; have hcz4_0 : w3.cell? ⟨gb280, 0, none⟩ = some (.bool a0_0) := (blk_cell BK280.out 0).trans rfl; have hcz4_1 : w3.cell? ⟨gb280, 1, none⟩ = some (.bool a0_1) := (blk_cell BK280.out 1).trans rfl; have hcz4_2 : w3.cell? ⟨gb280, 2, none⟩ = some (.bool true) := (blk_cell BK280.out 2).trans rfl; have hcz4_3 : w3.cell? ⟨gb280, 3, none⟩ = some (.bool a0_3) := (blk_cell BK280.out 3).trans rfl; have hcz4_4 : w3.cell? ⟨gb280, 4, none⟩ = some (.bool a0_4) := (blk_cell BK280.out 4).trans rfl; have hcz4_5 : w3.cell? ⟨gb280, 5, none⟩ = some (.bool a0_5) := (blk_cell BK280.out 5).trans rfl; have hcz4_6 : w3.cell? ⟨gb280, 6, none⟩ = some (.bool a0_6) := (blk_cell BK280.out 6).trans rfl; have hcz4_7 : w3.cell? ⟨gb280, 7, none⟩ = some (.bool a0_7) := (blk_cell BK280.out 7).trans rfl; have hcz4_8 : w3.cell? ⟨gb280, 8, none⟩ = some (.int .i64 a0_8) := (blk_cell BK280.out 8).trans rfl; have hfz4_0 := blk_frozen BK280.out 0; have hfz4_1 := blk_frozen BK280.out 1; have hfz4_2 := blk_frozen BK280.out 2; have hfz4_3 := blk_frozen BK280.out 3; have hfz4_4 := blk_frozen BK280.out 4; have hfz4_5 := blk_frozen BK280.out 5; have hfz4_6 := blk_frozen BK280.out 6; have hfz4_7 := blk_frozen BK280.out 7; have hfz4_8 := blk_frozen BK280.out 8))
  go_ret
  exact ⟨by first | rfl | (simp [errW_none, errW_some] <;> rfl) | (simp [*, errW_none, errW_some] <;> rfl), bh_ HB⟩
 ·replace c2 := Bool.eq_false_iff.mpr c2
  subst c2
  have H1 : (some a0_5) = some r := by rw [if_neg (show ¬ (false = true) by decide)] at H; exact H
  clear H
  have H := H1
  clear H1
  obtain rfl := Option.some.inj H
  go_enter Tryz.func53, Tryz.ntmps53
  go_wp2_with (first | ((with_reducible refine gate_dst (N := 1) rfl ?_); refine box_e 1 #[.bool a0_0, .bool a0_1, .bool false, .bool a0_3, .bool a0_4, .bool a0_5, .bool a0_6, .bool a0_7, .int .i64 a0_8] 26 ?_; intro gb280 hg w5 hbox hb; have BK280 := Aside0.mk hbox; have GW280 := bg_ HB hg; have GE280 := bg_ HB hg; replace HB := bs_ HB hb; clear hb hbox hg; have hcz6_0 : w5.cell? ⟨gb280, 0, none⟩ = some (.bool a0_0) := (blk_cell BK280.out 0).trans rfl; have hcz6_1 : w5.cell? ⟨gb280, 1, none⟩ = some (.bool a0_1) := (blk_cell BK280.out 1).trans rfl; have hcz6_2 : w5.cell? ⟨gb280, 2, none⟩ = some (.bool false) := (blk_cell BK280.out 2).trans rfl; have hcz6_3 : w5.cell? ⟨gb280, 3, none⟩ = some (.bool a0_3) := (blk_cell BK280.out 3).trans rfl; have hcz6_4 : w5.cell? ⟨gb280, 4, none⟩ = some (.bool a0_4) := (blk_cell BK280.out 4).trans rfl; have hcz6_5 : w5.cell? ⟨gb280, 5, none⟩ = some (.bool a0_5) := (blk_cell BK280.out 5).trans rfl; have hcz6_6 : w5.cell? ⟨gb280, 6, none⟩ = some (.bool a0_6) := (blk_cell BK280.out 6).trans rfl; have hcz6_7 : w5.cell? ⟨gb280, 7, none⟩ = some (.bool a0_7) := (blk_cell BK280.out 7).trans rfl; have hcz6_8 : w5.cell? ⟨gb280, 8, none⟩ = some (.int .i64 a0_8) := (blk_cell BK280.out 8).trans rfl; have hfz6_0 := blk_frozen BK280.out 0; have hfz6_1 := blk_frozen BK280.out 1; have hfz6_2 := blk_frozen BK280.out 2; have hfz6_3 := blk_frozen BK280.out 3; have hfz6_4 := blk_frozen BK280.out 4; have hfz6_5 := blk_frozen BK280.out 5; have hfz6_6 := blk_frozen BK280.out 6; have hfz6_7 := blk_frozen BK280.out 7; have hfz6_8 := blk_frozen BK280.out 8))
  go_ret
  exact ⟨by first | rfl | (simp [errW_none, errW_some] <;> rfl) | (simp [*, errW_none, errW_some] <;> rfl), bh_ HB⟩
end Go.Proofs.YtbmhfnncagncmaaGreatDoor.P
