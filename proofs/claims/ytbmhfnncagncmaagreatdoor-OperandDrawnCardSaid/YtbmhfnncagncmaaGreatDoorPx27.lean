import Derived.Test.YtbmhfnncagncmaaGreatDoorPx26
namespace Go.Proofs.YtbmhfnncagncmaaGreatDoor.P
open Go.RowKit Go.Proofs.YtbmhfnncagncmaaGreatDoorW.PrintWords Go.Proofs.YtbmhfnncagncmaaGreatDoorW.PrintLast Go.Proofs.YtbmhfnncagncmaaGreatDoorW.PrintMore
attribute [local go_sem] max2_int min2_int max_two min_two max_three min_three max_four min_four
set_option linter.unusedVariables false
set_option linter.unusedSimpArgs false
theorem s9_Px27 {W : World} {g : Nat} {a0 a1 a2 a3 a4 a5 a6 a7 : Bool} {a8 : Int} (h : W.heap[g]? = some (.cells #[.bool a0, .bool a1, .bool a2, .bool a3, .bool a4, .bool a5, .bool a6, .bool a7, .int .i64 a8] 26 (0, 0))) : W.cell? ⟨g, 0, none⟩ = some (.bool a0) ∧ W.cell? ⟨g, 1, none⟩ = some (.bool a1) ∧ W.cell? ⟨g, 2, none⟩ = some (.bool a2) ∧ W.cell? ⟨g, 3, none⟩ = some (.bool a3) ∧ W.cell? ⟨g, 4, none⟩ = some (.bool a4) ∧ W.cell? ⟨g, 5, none⟩ = some (.bool a5) ∧ W.cell? ⟨g, 6, none⟩ = some (.bool a6) ∧ W.cell? ⟨g, 7, none⟩ = some (.bool a7) ∧ W.cell? ⟨g, 8, none⟩ = some (.int .i64 a8) := ⟨(blk_cell h 0).trans rfl, (blk_cell h 1).trans rfl, (blk_cell h 2).trans rfl, (blk_cell h 3).trans rfl, (blk_cell h 4).trans rfl, (blk_cell h 5).trans rfl, (blk_cell h 6).trans rfl, (blk_cell h 7).trans rfl, (blk_cell h 8).trans rfl⟩
abbrev bz27_0 : Array Bool := #[false, false, false, false, false, false, false, false, false, false, false, false, false, false, false, false, false, false, false, false, false, false, false, false, false, false, false, false, false, false, false, false, false, false, false, false, false, false, false, false, false, false]
abbrev bz27_1 : Array Bool := #[true, true, true, true, true, false, false, true, true, false, false, false, false, false, false, false, false, false, false, false, false, false, false, false, false, false, false, false, false, false, false, false, false, false, false, false, false, false, false, false, false, false]
abbrev bz27_2 : Array Bool := #[true, true, true, true, true, true, false, true, true, false, false, false, false, false, false, false, false, false, false, false, false, false, false, false, false, false, false, false, false, false, false, false, false, false, false, false, false, false, false, false, false, false]
abbrev bz27_3 : Array Bool := #[true, true, true, true, true, true, true, true, true, true, false, false, false, false, false, false, false, false, false, false, false, false, false, false, false, false, false, false, false, false, false, false, false, false, false, false, false, false, false, false, false, false]
abbrev bz27_4 : Array Bool := #[true, true, true, true, true, true, true, true, true, true, true, true, true, true, true, true, true, true, true, true, true, true, true, true, false, false, false, false, false, false, false, false, false, false, false, false, false, false, false, false, false, false]
abbrev bz27_5 : Array Bool := #[true, true, true, true, true, true, true, true, true, true, true, true, true, true, true, true, true, true, true, true, true, true, true, true, true, true, true, false, false, false, false, false, false, false, false, false, false, false, false, false, false, false]
def salvorref6_MayConvs.j0 : Nat → Int → Bool → Bool → Bool → Bool → Bool → Bool → Bool → Bool → Int → Option (Bool)
 | 0, _, _, _, _, _, _, _, _, _, _ => none
 | k + 1, x3, x282000, x282001, x282002, x282003, x282004, x282005, x282006, x282007, x282008 => (salvorref6_one.f x282005).bind fun t286 => ((salvorref6_one.f x282006).bind fun t287 => ((salvorref6_one.f x282007).bind fun t288 => (if (wrap64 ((wrap64 (t286 + t287)) + t288)) ≤ 1 then (if x282003 = true then (if x282004 = true then (some false) else ((salvorref6_Blocks.f x282000 x282001 x282002 x282003 x282004 x282005 x282006 x282007 x282008).bind fun t289 => (if t289 = true then ((salvorref6_Unblocks.f x282000 x282001 x282002 x282003 x282004 x282005 x282006 x282007 x282008).bind fun t290 => (if t290 = true then (some false) else (if x282008 ≥ x3 then (some (decide (x282008 ≤ 4096))) else (some false)))) else (if x282008 ≥ x3 then (some (decide (x282008 ≤ 4096))) else (some false))))) else ((salvorref6_Blocks.f x282000 x282001 x282002 x282003 x282004 x282005 x282006 x282007 x282008).bind fun t291 => (if t291 = true then ((salvorref6_Unblocks.f x282000 x282001 x282002 x282003 x282004 x282005 x282006 x282007 x282008).bind fun t292 => (if t292 = true then (some false) else (if x282008 ≥ x3 then (some (decide (x282008 ≤ 4096))) else (some false)))) else (if x282008 ≥ x3 then (some (decide (x282008 ≤ 4096))) else (some false))))) else (some false))))
def salvorref6_MayConvs.f (k : Nat) (a0_0 a0_1 a0_2 a0_3 a0_4 a0_5 a0_6 a0_7 : Bool) (a0_8 : Int) : Option (Bool) := (salvorref6_Blocks.f a0_0 a0_1 a0_2 a0_3 a0_4 a0_5 a0_6 a0_7 a0_8).bind fun t282 => (if t282 = true then ((salvorref6_one.f true).bind fun t283 => (salvorref6_MayConvs.j0 k t283 a0_0 a0_1 a0_2 a0_3 a0_4 a0_5 a0_6 a0_7 a0_8)) else ((salvorref6_Unblocks.f a0_0 a0_1 a0_2 a0_3 a0_4 a0_5 a0_6 a0_7 a0_8).bind fun t284 => ((salvorref6_one.f t284).bind fun t285 => (salvorref6_MayConvs.j0 k t285 a0_0 a0_1 a0_2 a0_3 a0_4 a0_5 a0_6 a0_7 a0_8))))
theorem salvorref6_MayConvs.mono_l : ∀ k, (∀ y0 y1 y2 y3 y4 y5 y6 y7 y8 y9, LeO (salvorref6_MayConvs.j0 k y0 y1 y2 y3 y4 y5 y6 y7 y8 y9) (salvorref6_MayConvs.j0 (k + 1) y0 y1 y2 y3 y4 y5 y6 y7 y8 y9))
 | 0 => fun _ _ _ _ _ _ _ _ _ _ r h => by simp [salvorref6_MayConvs.j0] at h
 | k + 1 => by
  have ih0 := salvorref6_MayConvs.mono_l k
  ·intro y0 y1 y2 y3 y4 y5 y6 y7 y8 y9
   unfold salvorref6_MayConvs.j0
   repeat' first
   | (with_reducible exact ih0 _ _ _ _ _ _ _ _ _ _)
   | (with_reducible exact LeO.refl _)
   | (with_reducible exact LeO.none _)
   | (with_reducible refine LeO.ite ?_ ?_)
   | (with_reducible refine LeO.bind ?_ (fun _ => ?_))
   | refine LeO.bind ?_ (fun _ => ?_)
theorem salvorref6_MayConvs.mono : ∀ a0 a1 a2 a3 a4 a5 a6 a7 a8 k, LeO (salvorref6_MayConvs.f k a0 a1 a2 a3 a4 a5 a6 a7 a8) (salvorref6_MayConvs.f (k + 1) a0 a1 a2 a3 a4 a5 a6 a7 a8) := by
 intro a0 a1 a2 a3 a4 a5 a6 a7 a8 k
 have ih0 := salvorref6_MayConvs.mono_l k
 unfold salvorref6_MayConvs.f
 repeat' first
   | (with_reducible exact ih0 _ _ _ _ _ _ _ _ _ _)
   | (with_reducible exact LeO.refl _)
   | (with_reducible exact LeO.none _)
   | (with_reducible refine LeO.ite ?_ ?_)
   | (with_reducible refine LeO.bind ?_ (fun _ => ?_))
   | refine LeO.bind ?_ (fun _ => ?_)
def salvorref6_MayConvs.T2 : Bool × List (List Nat × List Nat) := (true, [([], []), ([0], [0]), ([1], [1]), ([], []), ([3], [3]), ([4, 2], [4]), ([2, 5], [2, 5]), ([], []), ([7], [7]), ([8, 5], [8]), ([6, 9], [6, 9]), ([10], [10]), ([11, 9], [11]), ([12], [12]), ([13, 12], [12, 13]), ([14, 12, 12], [12, 14]), ([15], [15]), ([16, 15], [15, 16]), ([15, 17, 12], [12, 15, 17]), ([18, 12], [12, 18]), ([12, 19], [12, 19]), ([20, 15], [20]), ([21], [21]), ([22, 21, 21], [21, 22]), ([23, 23, 21], [21, 23]), ([24], [24]), ([25, 24, 24], [24, 25]), ([24, 26, 21], [21, 24, 26]), ([27, 21], [21, 27]), ([21, 28], [21, 28]), ([29, 26], [29]), ([30], [30]), ([31, 30], [30, 31]), ([30], [30]), ([32, 33, 30], [30, 32, 33]), ([30, 34], [30, 34]), ([35, 30], [35]), ([36], [36]), ([37, 36], [36, 37]), ([38, 36], [36, 38]), ([36, 39], [36, 39]), ([40, 36, 0, 1, 2, 3, 4, 5, 6, 7, 8, 9, 10, 11, 12, 13, 14, 15, 16, 17, 18, 19, 20, 21, 22, 23, 24, 25, 26, 27, 28, 29, 30, 31, 32, 33, 34, 35, 36, 37, 38, 39, 40], [40])])
def salvorref6_MayConvs.B2 : List Nat := [0, 1, 3, 0, 8, 31, 63, 0, 128, 447, 1023, 2047, 4095, 8191, 16383, 32767, 65535, 131071, 262143, 524287, 1048575, 2097151, 4194303, 8388607, 16777215, 33554431, 67108863, 134217727, 268435455, 536870911, 1073741823, 2147483647, 4294967295, 2147483647, 17179869183, 34359738367, 68719476735, 137438953471, 274877906943, 549755813887, 1099511627775, 2199023255551]
theorem salvorref6_MayConvs.tab2 : rtab .any (opsOf Tryz.f25 2) = salvorref6_MayConvs.T2 := by kernel_rfl
theorem salvorref6_MayConvs.bits2 : waitsOk salvorref6_MayConvs.T2.2 salvorref6_MayConvs.B2 = true := by kernel_rfl
set_option maxHeartbeats 8000000 in
set_option maxRecDepth 100000 in
theorem salvorref6_MayConvs.calls (k : Nat) (a0_0 a0_1 a0_2 a0_3 a0_4 a0_5 a0_6 a0_7 : Bool) (a0_8 : Int) (r : Bool) (w : World) (h : salvorref6_MayConvs.f k a0_0 a0_1 a0_2 a0_3 a0_4 a0_5 a0_6 a0_7 a0_8 = some r) :
  Calls Tryz.prog 25 #[.agg #[.bool a0_0, .bool a0_1, .bool a0_2, .bool a0_3, .bool a0_4, .bool a0_5, .bool a0_6, .bool a0_7, .int .i64 a0_8]] w fun e w' => e = .returned (.bool r) ∧ Below w.heap.size w w' := by
 have hu26 := Tryz.underlying26
 have HB := Aside0.mk (Below.refl w.heap.size w)
 have H : ((salvorref6_Blocks.f a0_0 a0_1 a0_2 a0_3 a0_4 a0_5 a0_6 a0_7 a0_8).bind fun t282 => (if t282 = true then ((salvorref6_one.f true).bind fun t283 => (salvorref6_MayConvs.j0 k t283 a0_0 a0_1 a0_2 a0_3 a0_4 a0_5 a0_6 a0_7 a0_8)) else ((salvorref6_Unblocks.f a0_0 a0_1 a0_2 a0_3 a0_4 a0_5 a0_6 a0_7 a0_8).bind fun t284 => ((salvorref6_one.f t284).bind fun t285 => (salvorref6_MayConvs.j0 k t285 a0_0 a0_1 a0_2 a0_3 a0_4 a0_5 a0_6 a0_7 a0_8))))) = some r := h
 clear h
 have HC2 := Aside0.mk H
 clear H
 go_enter Tryz.func25, Tryz.ntmps25
 go_upto_region 1 with (first | ((with_reducible refine gate_dst (N := 1) rfl ?_); refine box_e 1 #[.bool a0_0, .bool a0_1, .bool a0_2, .bool a0_3, .bool a0_4, .bool a0_5, .bool a0_6, .bool a0_7, .int .i64 a0_8] 26 ?_; intro gb281 hg w3 hbox hb; have BK281 := Aside0.mk hbox; have GW281 := bg_ HB hg; have GE281 := bg_ HB hg; replace HB := bs_ HB hb; clear hb hbox hg))
 (try simp only [Act.put, List.setIfInBounds_toArray, List.set_cons_zero, List.set_cons_succ])
 go_cut [3] (fun v3 wc => ∃ (kq : Nat) (x3_1 : Int), v3 = .int .i64 x3_1 ∧ Aside0 (salvorref6_MayConvs.j0 kq x3_1 a0_0 a0_1 a0_2 a0_3 a0_4 a0_5 a0_6 a0_7 a0_8 = some r) ∧ Aside0 (kq ≤ k) ∧ Aside0 (wc.heap[gb281]? = some (.cells #[.bool a0_0, .bool a0_1, .bool a0_2, .bool a0_3, .bool a0_4, .bool a0_5, .bool a0_6, .bool a0_7, .int .i64 a0_8] 26 (0, 0))) ∧ Aside0 (Below w.heap.size w wc))
 case first =>
  have H := HC2.out
  clear HC2
  replace H := Option.bind_eq_some_iff.mp H
  obtain ⟨t282, A40, H⟩ := H
  replace H : (if t282 = true then ((salvorref6_one.f true).bind fun t283 => (salvorref6_MayConvs.j0 k t283 a0_0 a0_1 a0_2 a0_3 a0_4 a0_5 a0_6 a0_7 a0_8)) else ((salvorref6_Unblocks.f a0_0 a0_1 a0_2 a0_3 a0_4 a0_5 a0_6 a0_7 a0_8).bind fun t284 => ((salvorref6_one.f t284).bind fun t285 => (salvorref6_MayConvs.j0 k t285 a0_0 a0_1 a0_2 a0_3 a0_4 a0_5 a0_6 a0_7 a0_8)))) = some r := H
  have A4 := Aside0.mk A40
  clear A40
  by_cases c5 : t282 = true
  ·subst c5
   have H1 := H; rw [if_pos rfl] at H1
   clear H
   have H := H1
   clear H1
   replace H := Option.bind_eq_some_iff.mp H
   obtain ⟨t283, A60, H⟩ := H
   replace H : (salvorref6_MayConvs.j0 k t283 a0_0 a0_1 a0_2 a0_3 a0_4 a0_5 a0_6 a0_7 a0_8) = some r := H
   have A6 := Aside0.mk A60
   clear A60
   have H' := Aside0.mk H
   clear H
   have hcz7_0 : w3.cell? ⟨gb281, 0, none⟩ = some (.bool a0_0) := (blk_cell BK281.out 0).trans rfl
   have hcz7_1 : w3.cell? ⟨gb281, 1, none⟩ = some (.bool a0_1) := (blk_cell BK281.out 1).trans rfl
   have hcz7_2 : w3.cell? ⟨gb281, 2, none⟩ = some (.bool a0_2) := (blk_cell BK281.out 2).trans rfl
   have hcz7_3 : w3.cell? ⟨gb281, 3, none⟩ = some (.bool a0_3) := (blk_cell BK281.out 3).trans rfl
   have hcz7_4 : w3.cell? ⟨gb281, 4, none⟩ = some (.bool a0_4) := (blk_cell BK281.out 4).trans rfl
   have hcz7_5 : w3.cell? ⟨gb281, 5, none⟩ = some (.bool a0_5) := (blk_cell BK281.out 5).trans rfl
   have hcz7_6 : w3.cell? ⟨gb281, 6, none⟩ = some (.bool a0_6) := (blk_cell BK281.out 6).trans rfl
   have hcz7_7 : w3.cell? ⟨gb281, 7, none⟩ = some (.bool a0_7) := (blk_cell BK281.out 7).trans rfl
   have hcz7_8 : w3.cell? ⟨gb281, 8, none⟩ = some (.int .i64 a0_8) := (blk_cell BK281.out 8).trans rfl
   have hfz7_0 := blk_frozen BK281.out 0
   have hfz7_1 := blk_frozen BK281.out 1
   have hfz7_2 := blk_frozen BK281.out 2
   have hfz7_3 := blk_frozen BK281.out 3
   have hfz7_4 := blk_frozen BK281.out 4
   have hfz7_5 := blk_frozen BK281.out 5
   have hfz7_6 := blk_frozen BK281.out 6
   have hfz7_7 := blk_frozen BK281.out 7
   have hfz7_8 := blk_frozen BK281.out 8
   go_wp2_with (first | ((with_reducible refine gate_callee (f := 52) rfl ?_); refine gl_ (some 5) rfl rfl Tryz.func52 (by kernel_rfl) rfl #[.agg #[.bool a0_0, .bool a0_1, .bool a0_2, .bool a0_3, .bool a0_4, .bool a0_5, .bool a0_6, .bool a0_7, .int .i64 a0_8]] rfl ?_; (with_reducible refine (salvorref6_Blocks.calls a0_0 a0_1 a0_2 a0_3 a0_4 a0_5 a0_6 a0_7 a0_8 true _ A4.out).mono ?_); rintro e w8 ⟨rfl, hb⟩; refine ⟨_, rfl, ?_⟩; replace BK281 := bb_ BK281 hb; replace HB := bs_ HB hb; (try clear hb)) | ((with_reducible refine gate_callee (f := 51) rfl ?_); refine gl_ (some 10) rfl rfl Tryz.func51 (by kernel_rfl) rfl #[.bool true] rfl ?_; (with_reducible refine (salvorref6_one.calls true t283 _ A6.out).mono ?_); rintro e w' ⟨rfl, ⟨nd, rfl⟩⟩; refine ⟨_, rfl, ?_⟩))
   go_meet
   case rel => exact ⟨_, (t283), (by first | rfl | (simp; done) | (simp [*]; done)), H', ⟨by first | omega | exact Nat.le_refl _⟩, ⟨bq_ BK281⟩, ⟨bh_ HB⟩⟩
  ·replace c5 := Bool.eq_false_iff.mpr c5
   subst c5
   have H1 : ((salvorref6_Unblocks.f a0_0 a0_1 a0_2 a0_3 a0_4 a0_5 a0_6 a0_7 a0_8).bind fun t284 => ((salvorref6_one.f t284).bind fun t285 => (salvorref6_MayConvs.j0 k t285 a0_0 a0_1 a0_2 a0_3 a0_4 a0_5 a0_6 a0_7 a0_8))) = some r := by rw [if_neg (show ¬ (false = true) by decide)] at H; exact H
   clear H
   have H := H1
   clear H1
   replace H := Option.bind_eq_some_iff.mp H
   obtain ⟨t284, A90, H⟩ := H
   replace H : ((salvorref6_one.f t284).bind fun t285 => (salvorref6_MayConvs.j0 k t285 a0_0 a0_1 a0_2 a0_3 a0_4 a0_5 a0_6 a0_7 a0_8)) = some r := H
   have A9 := Aside0.mk A90
   clear A90
   replace H := Option.bind_eq_some_iff.mp H
   obtain ⟨t285, A100, H⟩ := H
   replace H : (salvorref6_MayConvs.j0 k t285 a0_0 a0_1 a0_2 a0_3 a0_4 a0_5 a0_6 a0_7 a0_8) = some r := H
   have A10 := Aside0.mk A100
   clear A100
   have H' := Aside0.mk H
   clear H
   have hcz11_0 : w3.cell? ⟨gb281, 0, none⟩ = some (.bool a0_0) := (blk_cell BK281.out 0).trans rfl
   have hcz11_1 : w3.cell? ⟨gb281, 1, none⟩ = some (.bool a0_1) := (blk_cell BK281.out 1).trans rfl
   have hcz11_2 : w3.cell? ⟨gb281, 2, none⟩ = some (.bool a0_2) := (blk_cell BK281.out 2).trans rfl
   have hcz11_3 : w3.cell? ⟨gb281, 3, none⟩ = some (.bool a0_3) := (blk_cell BK281.out 3).trans rfl
   have hcz11_4 : w3.cell? ⟨gb281, 4, none⟩ = some (.bool a0_4) := (blk_cell BK281.out 4).trans rfl
   have hcz11_5 : w3.cell? ⟨gb281, 5, none⟩ = some (.bool a0_5) := (blk_cell BK281.out 5).trans rfl
   have hcz11_6 : w3.cell? ⟨gb281, 6, none⟩ = some (.bool a0_6) := (blk_cell BK281.out 6).trans rfl
   have hcz11_7 : w3.cell? ⟨gb281, 7, none⟩ = some (.bool a0_7) := (blk_cell BK281.out 7).trans rfl
   have hcz11_8 : w3.cell? ⟨gb281, 8, none⟩ = some (.int .i64 a0_8) := (blk_cell BK281.out 8).trans rfl
   have hfz11_0 := blk_frozen BK281.out 0
   have hfz11_1 := blk_frozen BK281.out 1
   have hfz11_2 := blk_frozen BK281.out 2
   have hfz11_3 := blk_frozen BK281.out 3
   have hfz11_4 := blk_frozen BK281.out 4
   have hfz11_5 := blk_frozen BK281.out 5
   have hfz11_6 := blk_frozen BK281.out 6
   have hfz11_7 := blk_frozen BK281.out 7
   have hfz11_8 := blk_frozen BK281.out 8
   go_wp2_with (first | ((with_reducible refine gate_callee (f := 52) rfl ?_); refine gl_ (some 5) rfl rfl Tryz.func52 (by kernel_rfl) rfl #[.agg #[.bool a0_0, .bool a0_1, .bool a0_2, .bool a0_3, .bool a0_4, .bool a0_5, .bool a0_6, .bool a0_7, .int .i64 a0_8]] rfl ?_; (with_reducible refine (salvorref6_Blocks.calls a0_0 a0_1 a0_2 a0_3 a0_4 a0_5 a0_6 a0_7 a0_8 false _ A4.out).mono ?_); rintro e w12 ⟨rfl, hb⟩; refine ⟨_, rfl, ?_⟩; replace BK281 := bb_ BK281 hb; replace HB := bs_ HB hb; (try clear hb); have hcz13_0 : w12.cell? ⟨gb281, 0, none⟩ = some (.bool a0_0) := (blk_cell BK281.out 0).trans rfl; have hcz13_1 : w12.cell? ⟨gb281, 1, none⟩ = some (.bool a0_1) := (blk_cell BK281.out 1).trans rfl; have hcz13_2 : w12.cell? ⟨gb281, 2, none⟩ = some (.bool a0_2) := (blk_cell BK281.out 2).trans rfl; have hcz13_3 : w12.cell? ⟨gb281, 3, none⟩ = some (.bool a0_3) := (blk_cell BK281.out 3).trans rfl; have hcz13_4 : w12.cell? ⟨gb281, 4, none⟩ = some (.bool a0_4) := (blk_cell BK281.out 4).trans rfl; have hcz13_5 : w12.cell? ⟨gb281, 5, none⟩ = some (.bool a0_5) := (blk_cell BK281.out 5).trans rfl; have hcz13_6 : w12.cell? ⟨gb281, 6, none⟩ = some (.bool a0_6) := (blk_cell BK281.out 6).trans rfl; have hcz13_7 : w12.cell? ⟨gb281, 7, none⟩ = some (.bool a0_7) := (blk_cell BK281.out 7).trans rfl; have hcz13_8 : w12.cell? ⟨gb281, 8, none⟩ = some (.int .i64 a0_8) := (blk_cell BK281.out 8).trans rfl; have hfz13_0 := blk_frozen BK281.out 0; have hfz13_1 := blk_frozen BK281.out 1; have hfz13_2 := blk_frozen BK281.out 2; have hfz13_3 := blk_frozen BK281.out 3; have hfz13_4 := blk_frozen BK281.out 4; have hfz13_5 := blk_frozen BK281.out 5; have hfz13_6 := blk_frozen BK281.out 6; have hfz13_7 := blk_frozen BK281.out 7; have hfz13_8 := blk_frozen BK281.out 8) | (go_at_call 53; (with_reducible refine (salvorref6_Unblocks.calls a0_0 a0_1 a0_2 a0_3 a0_4 a0_5 a0_6 a0_7 a0_8 t284 _ A9.out).mono ?_); rintro e w14 ⟨rfl, hb⟩; replace BK281 := bb_ BK281 hb; replace HB := bs_ HB hb; (try clear hb)) | ((with_reducible refine gate_callee (f := 51) rfl ?_); refine gl_ (some 10) rfl rfl Tryz.func51 (by kernel_rfl) rfl #[.bool t284] rfl ?_; (with_reducible refine (salvorref6_one.calls t284 t285 _ A10.out).mono ?_); rintro e w' ⟨rfl, ⟨nd, rfl⟩⟩; refine ⟨_, rfl, ?_⟩))
   go_meet
   case rel => exact ⟨_, (t285), (by first | rfl | (simp; done) | (simp [*]; done)), H', ⟨by first | omega | exact Nat.le_refl _⟩, ⟨bq_ BK281⟩, ⟨bh_ HB⟩⟩
 case rest =>
  clear HC2
  try clear c2
  try clear p2
  try clear c5
  try clear hcz11_0 hcz11_1 hcz11_2 hcz11_3 hcz11_4 hcz11_5 hcz11_6 hcz11_7 hcz11_8
  try clear hcz13_0 hcz13_1 hcz13_2 hcz13_3 hcz13_4 hcz13_5 hcz13_6 hcz13_7 hcz13_8
  try clear hcz7_0 hcz7_1 hcz7_2 hcz7_3 hcz7_4 hcz7_5 hcz7_6 hcz7_7 hcz7_8
  try clear hfz11_0 hfz11_1 hfz11_2 hfz11_3 hfz11_4 hfz11_5 hfz11_6 hfz11_7 hfz11_8
  try clear hfz13_0 hfz13_1 hfz13_2 hfz13_3 hfz13_4 hfz13_5 hfz13_6 hfz13_7 hfz13_8
  try clear hfz7_0 hfz7_1 hfz7_2 hfz7_3 hfz7_4 hfz7_5 hfz7_6 hfz7_7 hfz7_8
  obtain ⟨kq, x3_1, rfl, HA, HJ1, BK281, HB⟩ := hcut
  cases kq with
  | zero => exact absurd HA.out (by simp [salvorref6_MayConvs.j0])
  | succ kj1 =>
   have H := HA.out
   clear HA
   simp only [salvorref6_MayConvs.j0] at H
   replace H := Option.bind_eq_some_iff.mp H
   obtain ⟨t286, A150, H⟩ := H
   replace H : ((salvorref6_one.f a0_6).bind fun t287 => ((salvorref6_one.f a0_7).bind fun t288 => (if (wrap64 ((wrap64 (t286 + t287)) + t288)) ≤ 1 then (if a0_3 = true then (if a0_4 = true then (some false) else ((salvorref6_Blocks.f a0_0 a0_1 a0_2 a0_3 a0_4 a0_5 a0_6 a0_7 a0_8).bind fun t289 => (if t289 = true then ((salvorref6_Unblocks.f a0_0 a0_1 a0_2 a0_3 a0_4 a0_5 a0_6 a0_7 a0_8).bind fun t290 => (if t290 = true then (some false) else (if a0_8 ≥ x3_1 then (some (decide (a0_8 ≤ 4096))) else (some false)))) else (if a0_8 ≥ x3_1 then (some (decide (a0_8 ≤ 4096))) else (some false))))) else ((salvorref6_Blocks.f a0_0 a0_1 a0_2 a0_3 a0_4 a0_5 a0_6 a0_7 a0_8).bind fun t291 => (if t291 = true then ((salvorref6_Unblocks.f a0_0 a0_1 a0_2 a0_3 a0_4 a0_5 a0_6 a0_7 a0_8).bind fun t292 => (if t292 = true then (some false) else (if a0_8 ≥ x3_1 then (some (decide (a0_8 ≤ 4096))) else (some false)))) else (if a0_8 ≥ x3_1 then (some (decide (a0_8 ≤ 4096))) else (some false))))) else (some false)))) = some r := H
   have A15 := Aside0.mk A150
   clear A150
   replace H := Option.bind_eq_some_iff.mp H
   obtain ⟨t287, A160, H⟩ := H
   replace H : ((salvorref6_one.f a0_7).bind fun t288 => (if (wrap64 ((wrap64 (t286 + t287)) + t288)) ≤ 1 then (if a0_3 = true then (if a0_4 = true then (some false) else ((salvorref6_Blocks.f a0_0 a0_1 a0_2 a0_3 a0_4 a0_5 a0_6 a0_7 a0_8).bind fun t289 => (if t289 = true then ((salvorref6_Unblocks.f a0_0 a0_1 a0_2 a0_3 a0_4 a0_5 a0_6 a0_7 a0_8).bind fun t290 => (if t290 = true then (some false) else (if a0_8 ≥ x3_1 then (some (decide (a0_8 ≤ 4096))) else (some false)))) else (if a0_8 ≥ x3_1 then (some (decide (a0_8 ≤ 4096))) else (some false))))) else ((salvorref6_Blocks.f a0_0 a0_1 a0_2 a0_3 a0_4 a0_5 a0_6 a0_7 a0_8).bind fun t291 => (if t291 = true then ((salvorref6_Unblocks.f a0_0 a0_1 a0_2 a0_3 a0_4 a0_5 a0_6 a0_7 a0_8).bind fun t292 => (if t292 = true then (some false) else (if a0_8 ≥ x3_1 then (some (decide (a0_8 ≤ 4096))) else (some false)))) else (if a0_8 ≥ x3_1 then (some (decide (a0_8 ≤ 4096))) else (some false))))) else (some false))) = some r := H
   have A16 := Aside0.mk A160
   clear A160
   replace H := Option.bind_eq_some_iff.mp H
   obtain ⟨t288, A170, H⟩ := H
   replace H : (if (wrap64 ((wrap64 (t286 + t287)) + t288)) ≤ 1 then (if a0_3 = true then (if a0_4 = true then (some false) else ((salvorref6_Blocks.f a0_0 a0_1 a0_2 a0_3 a0_4 a0_5 a0_6 a0_7 a0_8).bind fun t289 => (if t289 = true then ((salvorref6_Unblocks.f a0_0 a0_1 a0_2 a0_3 a0_4 a0_5 a0_6 a0_7 a0_8).bind fun t290 => (if t290 = true then (some false) else (if a0_8 ≥ x3_1 then (some (decide (a0_8 ≤ 4096))) else (some false)))) else (if a0_8 ≥ x3_1 then (some (decide (a0_8 ≤ 4096))) else (some false))))) else ((salvorref6_Blocks.f a0_0 a0_1 a0_2 a0_3 a0_4 a0_5 a0_6 a0_7 a0_8).bind fun t291 => (if t291 = true then ((salvorref6_Unblocks.f a0_0 a0_1 a0_2 a0_3 a0_4 a0_5 a0_6 a0_7 a0_8).bind fun t292 => (if t292 = true then (some false) else (if a0_8 ≥ x3_1 then (some (decide (a0_8 ≤ 4096))) else (some false)))) else (if a0_8 ≥ x3_1 then (some (decide (a0_8 ≤ 4096))) else (some false))))) else (some false)) = some r := H
   have A17 := Aside0.mk A170
   clear A170
   by_cases c18 : (wrap64 ((wrap64 (t286 + t287)) + t288)) ≤ 1
   ·rw [if_pos c18] at H
    have c18b0 : decide ((wrap64 ((wrap64 (t286 + t287)) + t288)) ≤ 1) = true := decide_eq_true c18
    clear c18
    by_cases c19 : a0_3 = true
    ·subst c19
     have H1 := H; rw [if_pos rfl] at H1
     clear H
     have H := H1
     clear H1
     by_cases c20 : a0_4 = true
     ·subst c20
      have H1 := H; rw [if_pos rfl] at H1
      clear H
      have H := H1
      clear H1
      obtain rfl := Option.some.inj H
      try go_wp2
      replace BK281 := Aside0.mk (blk_drew BK281.out)
      replace HB := Aside0.mk (below_drew1 HB.out)
      refine start_ (n := 42) (S := fun w' => w'.cell? ⟨gb281, 0, none⟩ = some (.bool a0_0) ∧ w'.cell? ⟨gb281, 1, none⟩ = some (.bool a0_1) ∧ w'.cell? ⟨gb281, 2, none⟩ = some (.bool a0_2) ∧ w'.cell? ⟨gb281, 3, none⟩ = some (.bool true) ∧ w'.cell? ⟨gb281, 4, none⟩ = some (.bool true) ∧ w'.cell? ⟨gb281, 5, none⟩ = some (.bool a0_5) ∧ w'.cell? ⟨gb281, 6, none⟩ = some (.bool a0_6) ∧ w'.cell? ⟨gb281, 7, none⟩ = some (.bool a0_7) ∧ w'.cell? ⟨gb281, 8, none⟩ = some (.int .i64 a0_8)) (ds := []) bz27_0 (by kernel_rfl) rfl rfl (s9_Px27 BK281.out) (fun hHeld => ?_); refine with_tabW salvorref6_MayConvs.tab2 salvorref6_MayConvs.bits2 (fun HT_ HW_ => ?_)
      generalize wc.drew = w21 at BK281 HB hHeld ⊢
      refine pu_ 0 11 (lb_ 42 1) rfl rfl (ao_ HT_) ?_
      refine pu_ 3 14 (lb_ 42 9) rfl rfl (ao_ HT_) ?_
      refine pu_ 7 18 (lb_ 42 137) rfl rfl (ao_ HT_) ?_
      refine tk_ 1 12 (lb_ 42 139) rfl rfl (take_ofW HT_.out HW_.out (by kernel_rfl)) hHeld ?_
      refine tk_ 4 15 (lb_ 42 155) rfl rfl (take_ofW HT_.out HW_.out (by kernel_rfl)) hHeld ?_
      refine tk_ 8 19 (lb_ 42 411) rfl rfl (take_ofW HT_.out HW_.out (by kernel_rfl)) hHeld ?_
      refine one_ (i := 2) (N := some 13) bz27_1 rfl rfl (one_of HT_.out (by kernel_rfl)) (by decide) (fun K hK => ?_)
      refine gq_ Tryz.func51 (by kernel_rfl) rfl #[.bool a0_5] (by rfl) rfl rfl ?_
      with_reducible refine (salvorref6_one.calls a0_5 t286 _ A15.out).mono ?_
      rintro e w' ⟨rfl, ⟨nd, rfl⟩⟩
      refine ⟨_, rfl, ?_⟩
      refine hK.out _ _ (s9_Px27 BK281.out) (fun hHeld => ?_)
      clear hK K
      refine nm_ 13 ?_
      refine one_ (i := 5) (N := some 16) bz27_2 rfl rfl (one_of HT_.out (by kernel_rfl)) (by decide) (fun K hK => ?_)
      refine gq_ Tryz.func51 (by kernel_rfl) rfl #[.bool a0_6] (by rfl) rfl rfl ?_
      with_reducible refine (salvorref6_one.calls a0_6 t287 _ A16.out).mono ?_
      rintro e w' ⟨rfl, ⟨nd, rfl⟩⟩
      refine ⟨_, rfl, ?_⟩
      refine hK.out _ _ (s9_Px27 BK281.out) (fun hHeld => ?_)
      clear hK K
      refine nm_ 16 ?_
      refine pu_ 6 17 (lb_ 42 511) rfl rfl (ao_ HT_) ?_
      refine one_ (i := 9) (N := some 20) bz27_3 rfl rfl (one_of HT_.out (by kernel_rfl)) (by decide) (fun K hK => ?_)
      refine gq_ Tryz.func51 (by kernel_rfl) rfl #[.bool a0_7] (by rfl) rfl rfl ?_
      with_reducible refine (salvorref6_one.calls a0_7 t288 _ A17.out).mono ?_
      rintro e w' ⟨rfl, ⟨nd, rfl⟩⟩
      refine ⟨_, rfl, ?_⟩
      refine hK.out _ _ (s9_Px27 BK281.out) (fun hHeld => ?_)
      clear hK K
      refine nm_ 20 ?_
      refine pu_ 10 21 (lb_ 42 2047) rfl rfl (ao_ HT_) ?_
      refine pu_ 11 22 (lb_ 42 4095) rfl rfl (ao_ HT_) ?_
      refine pu_ 12 23 (lb_ 42 8191) rfl rfl (ao_ HT_) ?_
      refine pu_ 13 24 (lb_ 42 16383) rfl rfl (ao_ HT_) ?_
      refine tk_ 14 25 (lb_ 42 32767) rfl rfl (take_ofW HT_.out HW_.out (by kernel_rfl)) hHeld ?_
      refine pu_ 15 26 (lb_ 42 65535) rfl rfl (ao_ HT_) ?_
      refine pu_ 16 27 (lb_ 42 131071) rfl rfl (ao_ HT_) ?_
      refine tk_ 17 28 (lb_ 42 262143) rfl rfl (take_ofW HT_.out HW_.out (by kernel_rfl)) hHeld ?_
      refine pu_ 18 29 (lb_ 42 524287) rfl rfl (ao_ HT_) ?_
      refine pu_ 19 30 (lb_ 42 1048575) rfl rfl (ao_ HT_) ?_
      refine pu_ 20 31 (lb_ 42 2097151) rfl rfl (ao_ HT_) ?_
      refine pu_ 21 32 (lb_ 42 4194303) rfl rfl (ao_ HT_) ?_
      refine pd_ 22 33 (lb_ 42 8388607) rfl rfl (ao_ HT_) ?_
      refine pd_ 23 34 (lb_ 42 16777215) rfl rfl (ao_ HT_) ?_
      refine pd_ 24 35 (lb_ 42 33554431) rfl rfl (ao_ HT_) ?_
      refine pd_ 25 36 (lb_ 42 67108863) rfl rfl (ao_ HT_) ?_
      refine pd_ 26 37 (lb_ 42 134217727) rfl rfl (ao_ HT_) ?_
      refine pd_ 27 38 (lb_ 42 268435455) rfl rfl (ao_ HT_) ?_
      refine pd_ 28 39 (lb_ 42 536870911) rfl rfl (ao_ HT_) ?_
      refine pu_ 29 40 (lb_ 42 1073741823) rfl rfl (ao_ HT_) ?_
      refine pu_ 30 41 (lb_ 42 2147483647) rfl rfl (ao_ HT_) ?_
      refine pd_ 31 42 (lb_ 42 4294967295) rfl rfl (ao_ HT_) ?_
      refine pd_ 32 43 (lb_ 42 8589934591) rfl rfl (ao_ HT_) ?_
      refine pd_ 33 44 (lb_ 42 17179869183) rfl rfl (ao_ HT_) ?_
      refine pd_ 34 45 (lb_ 42 34359738367) rfl rfl (ao_ HT_) ?_
      refine pu_ 35 46 (lb_ 42 68719476735) rfl rfl (ao_ HT_) ?_
      refine pu_ 36 47 (lb_ 42 137438953471) rfl rfl (ao_ HT_) ?_
      refine pd_ 37 48 (lb_ 42 274877906943) rfl rfl (ao_ HT_) ?_
      refine pd_ 38 49 (lb_ 42 549755813887) rfl rfl (ao_ HT_) ?_
      refine pd_ 39 50 (lb_ 42 1099511627775) rfl rfl (ao_ HT_) ?_
      refine pu_ 40 51 (lb_ 42 2199023255551) rfl rfl (ao_ HT_) ?_
      refine pu_ 41 2 (lb_ 42 4398046511103) rfl rfl (ao_ HT_) ?_
      refine done_ (done_of HT_.out (by kernel_rfl)) ?_
      try go_wp2
      go_ret
      exact ⟨by first | rfl | (simp [errW_none, errW_some] <;> rfl) | (simp [*, errW_none, errW_some] <;> rfl), bh_ HB⟩
     ·replace c20 := Bool.eq_false_iff.mpr c20
      subst c20
      have H1 : ((salvorref6_Blocks.f a0_0 a0_1 a0_2 true false a0_5 a0_6 a0_7 a0_8).bind fun t289 => (if t289 = true then ((salvorref6_Unblocks.f a0_0 a0_1 a0_2 true false a0_5 a0_6 a0_7 a0_8).bind fun t290 => (if t290 = true then (some false) else (if a0_8 ≥ x3_1 then (some (decide (a0_8 ≤ 4096))) else (some false)))) else (if a0_8 ≥ x3_1 then (some (decide (a0_8 ≤ 4096))) else (some false)))) = some r := by rw [if_neg (show ¬ (false = true) by decide)] at H; exact H
      clear H
      have H := H1
      clear H1
      replace H := Option.bind_eq_some_iff.mp H
      obtain ⟨t289, A220, H⟩ := H
      replace H : (if t289 = true then ((salvorref6_Unblocks.f a0_0 a0_1 a0_2 true false a0_5 a0_6 a0_7 a0_8).bind fun t290 => (if t290 = true then (some false) else (if a0_8 ≥ x3_1 then (some (decide (a0_8 ≤ 4096))) else (some false)))) else (if a0_8 ≥ x3_1 then (some (decide (a0_8 ≤ 4096))) else (some false))) = some r := H
      have A22 := Aside0.mk A220
      clear A220
      by_cases c23 : t289 = true
      ·subst c23
       have H1 := H; rw [if_pos rfl] at H1
       clear H
       have H := H1
       clear H1
       replace H := Option.bind_eq_some_iff.mp H
       obtain ⟨t290, A240, H⟩ := H
       replace H : (if t290 = true then (some false) else (if a0_8 ≥ x3_1 then (some (decide (a0_8 ≤ 4096))) else (some false))) = some r := H
       have A24 := Aside0.mk A240
       clear A240
       by_cases c25 : t290 = true
       ·subst c25
        have H1 := H; rw [if_pos rfl] at H1
        clear H
        have H := H1
        clear H1
        obtain rfl := Option.some.inj H
        try go_wp2
        replace BK281 := Aside0.mk (blk_drew BK281.out)
        replace HB := Aside0.mk (below_drew1 HB.out)
        refine start_ (n := 42) (S := fun w' => w'.cell? ⟨gb281, 0, none⟩ = some (.bool a0_0) ∧ w'.cell? ⟨gb281, 1, none⟩ = some (.bool a0_1) ∧ w'.cell? ⟨gb281, 2, none⟩ = some (.bool a0_2) ∧ w'.cell? ⟨gb281, 3, none⟩ = some (.bool true) ∧ w'.cell? ⟨gb281, 4, none⟩ = some (.bool false) ∧ w'.cell? ⟨gb281, 5, none⟩ = some (.bool a0_5) ∧ w'.cell? ⟨gb281, 6, none⟩ = some (.bool a0_6) ∧ w'.cell? ⟨gb281, 7, none⟩ = some (.bool a0_7) ∧ w'.cell? ⟨gb281, 8, none⟩ = some (.int .i64 a0_8)) (ds := []) bz27_0 (by kernel_rfl) rfl rfl (s9_Px27 BK281.out) (fun hHeld => ?_); refine with_tabW salvorref6_MayConvs.tab2 salvorref6_MayConvs.bits2 (fun HT_ HW_ => ?_)
        generalize wc.drew = w26 at BK281 HB hHeld ⊢
        refine pu_ 0 11 (lb_ 42 1) rfl rfl (ao_ HT_) ?_
        refine pu_ 3 14 (lb_ 42 9) rfl rfl (ao_ HT_) ?_
        refine pu_ 7 18 (lb_ 42 137) rfl rfl (ao_ HT_) ?_
        refine tk_ 1 12 (lb_ 42 139) rfl rfl (take_ofW HT_.out HW_.out (by kernel_rfl)) hHeld ?_
        refine tk_ 4 15 (lb_ 42 155) rfl rfl (take_ofW HT_.out HW_.out (by kernel_rfl)) hHeld ?_
        refine tk_ 8 19 (lb_ 42 411) rfl rfl (take_ofW HT_.out HW_.out (by kernel_rfl)) hHeld ?_
        refine one_ (i := 2) (N := some 13) bz27_1 rfl rfl (one_of HT_.out (by kernel_rfl)) (by decide) (fun K hK => ?_)
        refine gq_ Tryz.func51 (by kernel_rfl) rfl #[.bool a0_5] (by rfl) rfl rfl ?_
        with_reducible refine (salvorref6_one.calls a0_5 t286 _ A15.out).mono ?_
        rintro e w' ⟨rfl, ⟨nd, rfl⟩⟩
        refine ⟨_, rfl, ?_⟩
        refine hK.out _ _ (s9_Px27 BK281.out) (fun hHeld => ?_)
        clear hK K
        refine nm_ 13 ?_
        refine one_ (i := 5) (N := some 16) bz27_2 rfl rfl (one_of HT_.out (by kernel_rfl)) (by decide) (fun K hK => ?_)
        refine gq_ Tryz.func51 (by kernel_rfl) rfl #[.bool a0_6] (by rfl) rfl rfl ?_
        with_reducible refine (salvorref6_one.calls a0_6 t287 _ A16.out).mono ?_
        rintro e w' ⟨rfl, ⟨nd, rfl⟩⟩
        refine ⟨_, rfl, ?_⟩
        refine hK.out _ _ (s9_Px27 BK281.out) (fun hHeld => ?_)
        clear hK K
        refine nm_ 16 ?_
        refine pu_ 6 17 (lb_ 42 511) rfl rfl (ao_ HT_) ?_
        refine one_ (i := 9) (N := some 20) bz27_3 rfl rfl (one_of HT_.out (by kernel_rfl)) (by decide) (fun K hK => ?_)
        refine gq_ Tryz.func51 (by kernel_rfl) rfl #[.bool a0_7] (by rfl) rfl rfl ?_
        with_reducible refine (salvorref6_one.calls a0_7 t288 _ A17.out).mono ?_
        rintro e w' ⟨rfl, ⟨nd, rfl⟩⟩
        refine ⟨_, rfl, ?_⟩
        refine hK.out _ _ (s9_Px27 BK281.out) (fun hHeld => ?_)
        clear hK K
        refine nm_ 20 ?_
        refine pu_ 10 21 (lb_ 42 2047) rfl rfl (ao_ HT_) ?_
        refine pu_ 11 22 (lb_ 42 4095) rfl rfl (ao_ HT_) ?_
        refine pu_ 12 23 (lb_ 42 8191) rfl rfl (ao_ HT_) ?_
        refine pu_ 13 24 (lb_ 42 16383) rfl rfl (ao_ HT_) ?_
        refine tk_ 14 25 (lb_ 42 32767) rfl rfl (take_ofW HT_.out HW_.out (by kernel_rfl)) hHeld ?_
        refine pu_ 15 26 (lb_ 42 65535) rfl rfl (ao_ HT_) ?_
        refine pu_ 16 27 (lb_ 42 131071) rfl rfl (ao_ HT_) ?_
        refine tk_ 17 28 (lb_ 42 262143) rfl rfl (take_ofW HT_.out HW_.out (by kernel_rfl)) hHeld ?_
        refine pu_ 18 29 (lb_ 42 524287) rfl rfl (ao_ HT_) ?_
        refine pu_ 19 30 (lb_ 42 1048575) rfl rfl (ao_ HT_) ?_
        refine pu_ 20 31 (lb_ 42 2097151) rfl rfl (ao_ HT_) ?_
        refine pu_ 21 32 (lb_ 42 4194303) rfl rfl (ao_ HT_) ?_
        refine tk_ 22 33 (lb_ 42 8388607) rfl rfl (take_ofW HT_.out HW_.out (by kernel_rfl)) hHeld ?_
        refine one_ (i := 23) (N := some 34) bz27_4 rfl rfl (one_of HT_.out (by kernel_rfl)) (by decide) (fun K hK => ?_)
        refine gq_ Tryz.func52 (by kernel_rfl) rfl #[.agg #[.bool a0_0, .bool a0_1, .bool a0_2, .bool true, .bool false, .bool a0_5, .bool a0_6, .bool a0_7, .int .i64 a0_8]] (by rfl) rfl rfl ?_
        with_reducible refine (salvorref6_Blocks.calls a0_0 a0_1 a0_2 true false a0_5 a0_6 a0_7 a0_8 true _ A22.out).mono ?_
        rintro e w27 ⟨rfl, hb⟩
        refine ⟨_, rfl, ?_⟩
        replace BK281 := bb_ BK281 hb
        replace HB := bs_ HB hb
        (try clear hb)
        refine hK.out _ _ (s9_Px27 BK281.out) (fun hHeld => ?_)
        clear hK K
        refine nm_ 34 ?_
        refine pu_ 24 35 (lb_ 42 33554431) rfl rfl (ao_ HT_) ?_
        refine tk_ 25 36 (lb_ 42 67108863) rfl rfl (take_ofW HT_.out HW_.out (by kernel_rfl)) hHeld ?_
        refine one_ (i := 26) (N := some 37) bz27_5 rfl rfl (one_of HT_.out (by kernel_rfl)) (by decide) (fun K hK => ?_)
        refine gq_ Tryz.func53 (by kernel_rfl) rfl #[.agg #[.bool a0_0, .bool a0_1, .bool a0_2, .bool true, .bool false, .bool a0_5, .bool a0_6, .bool a0_7, .int .i64 a0_8]] (by rfl) rfl rfl ?_
        with_reducible refine (salvorref6_Unblocks.calls a0_0 a0_1 a0_2 true false a0_5 a0_6 a0_7 a0_8 true _ A24.out).mono ?_
        rintro e w28 ⟨rfl, hb⟩
        refine ⟨_, rfl, ?_⟩
        replace BK281 := bb_ BK281 hb
        replace HB := bs_ HB hb
        (try clear hb)
        refine hK.out _ _ (s9_Px27 BK281.out) (fun hHeld => ?_)
        clear hK K
        refine nm_ 37 ?_
        refine pu_ 27 38 (lb_ 42 268435455) rfl rfl (ao_ HT_) ?_
        refine pu_ 28 39 (lb_ 42 536870911) rfl rfl (ao_ HT_) ?_
        refine pu_ 29 40 (lb_ 42 1073741823) rfl rfl (ao_ HT_) ?_
        refine pu_ 30 41 (lb_ 42 2147483647) rfl rfl (ao_ HT_) ?_
        refine pd_ 31 42 (lb_ 42 4294967295) rfl rfl (ao_ HT_) ?_
        refine pd_ 32 43 (lb_ 42 8589934591) rfl rfl (ao_ HT_) ?_
        refine pd_ 33 44 (lb_ 42 17179869183) rfl rfl (ao_ HT_) ?_
        refine pd_ 34 45 (lb_ 42 34359738367) rfl rfl (ao_ HT_) ?_
        refine pu_ 35 46 (lb_ 42 68719476735) rfl rfl (ao_ HT_) ?_
        refine pu_ 36 47 (lb_ 42 137438953471) rfl rfl (ao_ HT_) ?_
        refine pd_ 37 48 (lb_ 42 274877906943) rfl rfl (ao_ HT_) ?_
        refine pd_ 38 49 (lb_ 42 549755813887) rfl rfl (ao_ HT_) ?_
        refine pd_ 39 50 (lb_ 42 1099511627775) rfl rfl (ao_ HT_) ?_
        refine pu_ 40 51 (lb_ 42 2199023255551) rfl rfl (ao_ HT_) ?_
        refine pu_ 41 2 (lb_ 42 4398046511103) rfl rfl (ao_ HT_) ?_
        refine done_ (done_of HT_.out (by kernel_rfl)) ?_
        try go_wp2
        go_ret
        exact ⟨by first | rfl | (simp [errW_none, errW_some] <;> rfl) | (simp [*, errW_none, errW_some] <;> rfl), bh_ HB⟩
       ·replace c25 := Bool.eq_false_iff.mpr c25
        subst c25
        have H1 : (if a0_8 ≥ x3_1 then (some (decide (a0_8 ≤ 4096))) else (some false)) = some r := by rw [if_neg (show ¬ (false = true) by decide)] at H; exact H
        clear H
        have H := H1
        clear H1
        by_cases c29 : a0_8 ≥ x3_1
        ·rw [if_pos c29] at H
         have c29b0 : decide (x3_1 ≤ a0_8) = true := decide_eq_true c29
         clear c29
         obtain rfl := Option.some.inj H
         try go_wp2
         replace BK281 := Aside0.mk (blk_drew BK281.out)
         replace HB := Aside0.mk (below_drew1 HB.out)
         refine start_ (n := 42) (S := fun w' => w'.cell? ⟨gb281, 0, none⟩ = some (.bool a0_0) ∧ w'.cell? ⟨gb281, 1, none⟩ = some (.bool a0_1) ∧ w'.cell? ⟨gb281, 2, none⟩ = some (.bool a0_2) ∧ w'.cell? ⟨gb281, 3, none⟩ = some (.bool true) ∧ w'.cell? ⟨gb281, 4, none⟩ = some (.bool false) ∧ w'.cell? ⟨gb281, 5, none⟩ = some (.bool a0_5) ∧ w'.cell? ⟨gb281, 6, none⟩ = some (.bool a0_6) ∧ w'.cell? ⟨gb281, 7, none⟩ = some (.bool a0_7) ∧ w'.cell? ⟨gb281, 8, none⟩ = some (.int .i64 a0_8)) (ds := []) bz27_0 (by kernel_rfl) rfl rfl (s9_Px27 BK281.out) (fun hHeld => ?_); refine with_tabW salvorref6_MayConvs.tab2 salvorref6_MayConvs.bits2 (fun HT_ HW_ => ?_)
         generalize wc.drew = w30 at BK281 HB hHeld ⊢
         refine pu_ 0 11 (lb_ 42 1) rfl rfl (ao_ HT_) ?_
         refine pu_ 3 14 (lb_ 42 9) rfl rfl (ao_ HT_) ?_
         refine pu_ 7 18 (lb_ 42 137) rfl rfl (ao_ HT_) ?_
         refine tk_ 1 12 (lb_ 42 139) rfl rfl (take_ofW HT_.out HW_.out (by kernel_rfl)) hHeld ?_
         refine tk_ 4 15 (lb_ 42 155) rfl rfl (take_ofW HT_.out HW_.out (by kernel_rfl)) hHeld ?_
         refine tk_ 8 19 (lb_ 42 411) rfl rfl (take_ofW HT_.out HW_.out (by kernel_rfl)) hHeld ?_
         refine one_ (i := 2) (N := some 13) bz27_1 rfl rfl (one_of HT_.out (by kernel_rfl)) (by decide) (fun K hK => ?_)
         refine gq_ Tryz.func51 (by kernel_rfl) rfl #[.bool a0_5] (by rfl) rfl rfl ?_
         with_reducible refine (salvorref6_one.calls a0_5 t286 _ A15.out).mono ?_
         rintro e w' ⟨rfl, ⟨nd, rfl⟩⟩
         refine ⟨_, rfl, ?_⟩
         refine hK.out _ _ (s9_Px27 BK281.out) (fun hHeld => ?_)
         clear hK K
         refine nm_ 13 ?_
         refine one_ (i := 5) (N := some 16) bz27_2 rfl rfl (one_of HT_.out (by kernel_rfl)) (by decide) (fun K hK => ?_)
         refine gq_ Tryz.func51 (by kernel_rfl) rfl #[.bool a0_6] (by rfl) rfl rfl ?_
         with_reducible refine (salvorref6_one.calls a0_6 t287 _ A16.out).mono ?_
         rintro e w' ⟨rfl, ⟨nd, rfl⟩⟩
         refine ⟨_, rfl, ?_⟩
         refine hK.out _ _ (s9_Px27 BK281.out) (fun hHeld => ?_)
         clear hK K
         refine nm_ 16 ?_
         refine pu_ 6 17 (lb_ 42 511) rfl rfl (ao_ HT_) ?_
         refine one_ (i := 9) (N := some 20) bz27_3 rfl rfl (one_of HT_.out (by kernel_rfl)) (by decide) (fun K hK => ?_)
         refine gq_ Tryz.func51 (by kernel_rfl) rfl #[.bool a0_7] (by rfl) rfl rfl ?_
         with_reducible refine (salvorref6_one.calls a0_7 t288 _ A17.out).mono ?_
         rintro e w' ⟨rfl, ⟨nd, rfl⟩⟩
         refine ⟨_, rfl, ?_⟩
         refine hK.out _ _ (s9_Px27 BK281.out) (fun hHeld => ?_)
         clear hK K
         refine nm_ 20 ?_
         refine pu_ 10 21 (lb_ 42 2047) rfl rfl (ao_ HT_) ?_
         refine pu_ 11 22 (lb_ 42 4095) rfl rfl (ao_ HT_) ?_
         refine pu_ 12 23 (lb_ 42 8191) rfl rfl (ao_ HT_) ?_
         refine pu_ 13 24 (lb_ 42 16383) rfl rfl (ao_ HT_) ?_
         refine tk_ 14 25 (lb_ 42 32767) rfl rfl (take_ofW HT_.out HW_.out (by kernel_rfl)) hHeld ?_
         refine pu_ 15 26 (lb_ 42 65535) rfl rfl (ao_ HT_) ?_
         refine pu_ 16 27 (lb_ 42 131071) rfl rfl (ao_ HT_) ?_
         refine tk_ 17 28 (lb_ 42 262143) rfl rfl (take_ofW HT_.out HW_.out (by kernel_rfl)) hHeld ?_
         refine pu_ 18 29 (lb_ 42 524287) rfl rfl (ao_ HT_) ?_
         refine pu_ 19 30 (lb_ 42 1048575) rfl rfl (ao_ HT_) ?_
         refine pu_ 20 31 (lb_ 42 2097151) rfl rfl (ao_ HT_) ?_
         refine pu_ 21 32 (lb_ 42 4194303) rfl rfl (ao_ HT_) ?_
         refine tk_ 22 33 (lb_ 42 8388607) rfl rfl (take_ofW HT_.out HW_.out (by kernel_rfl)) hHeld ?_
         refine one_ (i := 23) (N := some 34) bz27_4 rfl rfl (one_of HT_.out (by kernel_rfl)) (by decide) (fun K hK => ?_)
         refine gq_ Tryz.func52 (by kernel_rfl) rfl #[.agg #[.bool a0_0, .bool a0_1, .bool a0_2, .bool true, .bool false, .bool a0_5, .bool a0_6, .bool a0_7, .int .i64 a0_8]] (by rfl) rfl rfl ?_
         with_reducible refine (salvorref6_Blocks.calls a0_0 a0_1 a0_2 true false a0_5 a0_6 a0_7 a0_8 true _ A22.out).mono ?_
         rintro e w31 ⟨rfl, hb⟩
         refine ⟨_, rfl, ?_⟩
         replace BK281 := bb_ BK281 hb
         replace HB := bs_ HB hb
         (try clear hb)
         refine hK.out _ _ (s9_Px27 BK281.out) (fun hHeld => ?_)
         clear hK K
         refine nm_ 34 ?_
         refine pu_ 24 35 (lb_ 42 33554431) rfl rfl (ao_ HT_) ?_
         refine tk_ 25 36 (lb_ 42 67108863) rfl rfl (take_ofW HT_.out HW_.out (by kernel_rfl)) hHeld ?_
         refine one_ (i := 26) (N := some 37) bz27_5 rfl rfl (one_of HT_.out (by kernel_rfl)) (by decide) (fun K hK => ?_)
         refine gq_ Tryz.func53 (by kernel_rfl) rfl #[.agg #[.bool a0_0, .bool a0_1, .bool a0_2, .bool true, .bool false, .bool a0_5, .bool a0_6, .bool a0_7, .int .i64 a0_8]] (by rfl) rfl rfl ?_
         with_reducible refine (salvorref6_Unblocks.calls a0_0 a0_1 a0_2 true false a0_5 a0_6 a0_7 a0_8 false _ A24.out).mono ?_
         rintro e w32 ⟨rfl, hb⟩
         refine ⟨_, rfl, ?_⟩
         replace BK281 := bb_ BK281 hb
         replace HB := bs_ HB hb
         (try clear hb)
         refine hK.out _ _ (s9_Px27 BK281.out) (fun hHeld => ?_)
         clear hK K
         refine nm_ 37 ?_
         refine pu_ 27 38 (lb_ 42 268435455) rfl rfl (ao_ HT_) ?_
         refine pu_ 28 39 (lb_ 42 536870911) rfl rfl (ao_ HT_) ?_
         refine pu_ 29 40 (lb_ 42 1073741823) rfl rfl (ao_ HT_) ?_
         refine pu_ 30 41 (lb_ 42 2147483647) rfl rfl (ao_ HT_) ?_
         refine pu_ 31 42 (lb_ 42 4294967295) rfl rfl (ao_ HT_) ?_
         refine pu_ 33 44 (lb_ 42 12884901887) rfl rfl (ao_ HT_) ?_
         refine tk_ 32 43 (lb_ 42 17179869183) rfl rfl (take_ofW HT_.out HW_.out (by kernel_rfl)) hHeld ?_
         refine pu_ 34 45 (lb_ 42 34359738367) rfl rfl (ao_ HT_) ?_
         refine pu_ 35 46 (lb_ 42 68719476735) rfl rfl (ao_ HT_) ?_
         refine pu_ 36 47 (lb_ 42 137438953471) rfl rfl (ao_ HT_) ?_
         refine pu_ 37 48 (lb_ 42 274877906943) rfl rfl (ao_ HT_) ?_
         refine tk_ 38 49 (lb_ 42 549755813887) rfl rfl (take_ofW HT_.out HW_.out (by kernel_rfl)) hHeld ?_
         refine pu_ 39 50 (lb_ 42 1099511627775) rfl rfl (ao_ HT_) ?_
         refine pu_ 40 51 (lb_ 42 2199023255551) rfl rfl (ao_ HT_) ?_
         refine pu_ 41 2 (lb_ 42 4398046511103) rfl rfl (ao_ HT_) ?_
         refine done_ (done_of HT_.out (by kernel_rfl)) ?_
         try go_wp2
         go_ret
         exact ⟨by first | rfl | (simp [errW_none, errW_some] <;> rfl) | (simp [*, errW_none, errW_some] <;> rfl), bh_ HB⟩
        ·rw [if_neg c29] at H
         have c29b0 : decide (x3_1 ≤ a0_8) = false := decide_eq_false c29
         clear c29
         obtain rfl := Option.some.inj H
         try go_wp2
         replace BK281 := Aside0.mk (blk_drew BK281.out)
         replace HB := Aside0.mk (below_drew1 HB.out)
         refine start_ (n := 42) (S := fun w' => w'.cell? ⟨gb281, 0, none⟩ = some (.bool a0_0) ∧ w'.cell? ⟨gb281, 1, none⟩ = some (.bool a0_1) ∧ w'.cell? ⟨gb281, 2, none⟩ = some (.bool a0_2) ∧ w'.cell? ⟨gb281, 3, none⟩ = some (.bool true) ∧ w'.cell? ⟨gb281, 4, none⟩ = some (.bool false) ∧ w'.cell? ⟨gb281, 5, none⟩ = some (.bool a0_5) ∧ w'.cell? ⟨gb281, 6, none⟩ = some (.bool a0_6) ∧ w'.cell? ⟨gb281, 7, none⟩ = some (.bool a0_7) ∧ w'.cell? ⟨gb281, 8, none⟩ = some (.int .i64 a0_8)) (ds := []) bz27_0 (by kernel_rfl) rfl rfl (s9_Px27 BK281.out) (fun hHeld => ?_); refine with_tabW salvorref6_MayConvs.tab2 salvorref6_MayConvs.bits2 (fun HT_ HW_ => ?_)
         generalize wc.drew = w33 at BK281 HB hHeld ⊢
         refine pu_ 0 11 (lb_ 42 1) rfl rfl (ao_ HT_) ?_
         refine pu_ 3 14 (lb_ 42 9) rfl rfl (ao_ HT_) ?_
         refine pu_ 7 18 (lb_ 42 137) rfl rfl (ao_ HT_) ?_
         refine tk_ 1 12 (lb_ 42 139) rfl rfl (take_ofW HT_.out HW_.out (by kernel_rfl)) hHeld ?_
         refine tk_ 4 15 (lb_ 42 155) rfl rfl (take_ofW HT_.out HW_.out (by kernel_rfl)) hHeld ?_
         refine tk_ 8 19 (lb_ 42 411) rfl rfl (take_ofW HT_.out HW_.out (by kernel_rfl)) hHeld ?_
         refine one_ (i := 2) (N := some 13) bz27_1 rfl rfl (one_of HT_.out (by kernel_rfl)) (by decide) (fun K hK => ?_)
         refine gq_ Tryz.func51 (by kernel_rfl) rfl #[.bool a0_5] (by rfl) rfl rfl ?_
         with_reducible refine (salvorref6_one.calls a0_5 t286 _ A15.out).mono ?_
         rintro e w' ⟨rfl, ⟨nd, rfl⟩⟩
         refine ⟨_, rfl, ?_⟩
         refine hK.out _ _ (s9_Px27 BK281.out) (fun hHeld => ?_)
         clear hK K
         refine nm_ 13 ?_
         refine one_ (i := 5) (N := some 16) bz27_2 rfl rfl (one_of HT_.out (by kernel_rfl)) (by decide) (fun K hK => ?_)
         refine gq_ Tryz.func51 (by kernel_rfl) rfl #[.bool a0_6] (by rfl) rfl rfl ?_
         with_reducible refine (salvorref6_one.calls a0_6 t287 _ A16.out).mono ?_
         rintro e w' ⟨rfl, ⟨nd, rfl⟩⟩
         refine ⟨_, rfl, ?_⟩
         refine hK.out _ _ (s9_Px27 BK281.out) (fun hHeld => ?_)
         clear hK K
         refine nm_ 16 ?_
         refine pu_ 6 17 (lb_ 42 511) rfl rfl (ao_ HT_) ?_
         refine one_ (i := 9) (N := some 20) bz27_3 rfl rfl (one_of HT_.out (by kernel_rfl)) (by decide) (fun K hK => ?_)
         refine gq_ Tryz.func51 (by kernel_rfl) rfl #[.bool a0_7] (by rfl) rfl rfl ?_
         with_reducible refine (salvorref6_one.calls a0_7 t288 _ A17.out).mono ?_
         rintro e w' ⟨rfl, ⟨nd, rfl⟩⟩
         refine ⟨_, rfl, ?_⟩
         refine hK.out _ _ (s9_Px27 BK281.out) (fun hHeld => ?_)
         clear hK K
         refine nm_ 20 ?_
         refine pu_ 10 21 (lb_ 42 2047) rfl rfl (ao_ HT_) ?_
         refine pu_ 11 22 (lb_ 42 4095) rfl rfl (ao_ HT_) ?_
         refine pu_ 12 23 (lb_ 42 8191) rfl rfl (ao_ HT_) ?_
         refine pu_ 13 24 (lb_ 42 16383) rfl rfl (ao_ HT_) ?_
         refine tk_ 14 25 (lb_ 42 32767) rfl rfl (take_ofW HT_.out HW_.out (by kernel_rfl)) hHeld ?_
         refine pu_ 15 26 (lb_ 42 65535) rfl rfl (ao_ HT_) ?_
         refine pu_ 16 27 (lb_ 42 131071) rfl rfl (ao_ HT_) ?_
         refine tk_ 17 28 (lb_ 42 262143) rfl rfl (take_ofW HT_.out HW_.out (by kernel_rfl)) hHeld ?_
         refine pu_ 18 29 (lb_ 42 524287) rfl rfl (ao_ HT_) ?_
         refine pu_ 19 30 (lb_ 42 1048575) rfl rfl (ao_ HT_) ?_
         refine pu_ 20 31 (lb_ 42 2097151) rfl rfl (ao_ HT_) ?_
         refine pu_ 21 32 (lb_ 42 4194303) rfl rfl (ao_ HT_) ?_
         refine tk_ 22 33 (lb_ 42 8388607) rfl rfl (take_ofW HT_.out HW_.out (by kernel_rfl)) hHeld ?_
         refine one_ (i := 23) (N := some 34) bz27_4 rfl rfl (one_of HT_.out (by kernel_rfl)) (by decide) (fun K hK => ?_)
         refine gq_ Tryz.func52 (by kernel_rfl) rfl #[.agg #[.bool a0_0, .bool a0_1, .bool a0_2, .bool true, .bool false, .bool a0_5, .bool a0_6, .bool a0_7, .int .i64 a0_8]] (by rfl) rfl rfl ?_
         with_reducible refine (salvorref6_Blocks.calls a0_0 a0_1 a0_2 true false a0_5 a0_6 a0_7 a0_8 true _ A22.out).mono ?_
         rintro e w34 ⟨rfl, hb⟩
         refine ⟨_, rfl, ?_⟩
         replace BK281 := bb_ BK281 hb
         replace HB := bs_ HB hb
         (try clear hb)
         refine hK.out _ _ (s9_Px27 BK281.out) (fun hHeld => ?_)
         clear hK K
         refine nm_ 34 ?_
         refine pu_ 24 35 (lb_ 42 33554431) rfl rfl (ao_ HT_) ?_
         refine tk_ 25 36 (lb_ 42 67108863) rfl rfl (take_ofW HT_.out HW_.out (by kernel_rfl)) hHeld ?_
         refine one_ (i := 26) (N := some 37) bz27_5 rfl rfl (one_of HT_.out (by kernel_rfl)) (by decide) (fun K hK => ?_)
         refine gq_ Tryz.func53 (by kernel_rfl) rfl #[.agg #[.bool a0_0, .bool a0_1, .bool a0_2, .bool true, .bool false, .bool a0_5, .bool a0_6, .bool a0_7, .int .i64 a0_8]] (by rfl) rfl rfl ?_
         with_reducible refine (salvorref6_Unblocks.calls a0_0 a0_1 a0_2 true false a0_5 a0_6 a0_7 a0_8 false _ A24.out).mono ?_
         rintro e w35 ⟨rfl, hb⟩
         refine ⟨_, rfl, ?_⟩
         replace BK281 := bb_ BK281 hb
         replace HB := bs_ HB hb
         (try clear hb)
         refine hK.out _ _ (s9_Px27 BK281.out) (fun hHeld => ?_)
         clear hK K
         refine nm_ 37 ?_
         refine pu_ 27 38 (lb_ 42 268435455) rfl rfl (ao_ HT_) ?_
         refine pu_ 28 39 (lb_ 42 536870911) rfl rfl (ao_ HT_) ?_
         refine pu_ 29 40 (lb_ 42 1073741823) rfl rfl (ao_ HT_) ?_
         refine pu_ 30 41 (lb_ 42 2147483647) rfl rfl (ao_ HT_) ?_
         refine pu_ 31 42 (lb_ 42 4294967295) rfl rfl (ao_ HT_) ?_
         refine pu_ 33 44 (lb_ 42 12884901887) rfl rfl (ao_ HT_) ?_
         refine tk_ 32 43 (lb_ 42 17179869183) rfl rfl (take_ofW HT_.out HW_.out (by kernel_rfl)) hHeld ?_
         refine pu_ 34 45 (lb_ 42 34359738367) rfl rfl (ao_ HT_) ?_
         refine pu_ 35 46 (lb_ 42 68719476735) rfl rfl (ao_ HT_) ?_
         refine pu_ 36 47 (lb_ 42 137438953471) rfl rfl (ao_ HT_) ?_
         refine pd_ 37 48 (lb_ 42 274877906943) rfl rfl (ao_ HT_) ?_
         refine pd_ 38 49 (lb_ 42 549755813887) rfl rfl (ao_ HT_) ?_
         refine pd_ 39 50 (lb_ 42 1099511627775) rfl rfl (ao_ HT_) ?_
         refine pu_ 40 51 (lb_ 42 2199023255551) rfl rfl (ao_ HT_) ?_
         refine pu_ 41 2 (lb_ 42 4398046511103) rfl rfl (ao_ HT_) ?_
         refine done_ (done_of HT_.out (by kernel_rfl)) ?_
         try go_wp2
         go_ret
         exact ⟨by first | rfl | (simp [errW_none, errW_some] <;> rfl) | (simp [*, errW_none, errW_some] <;> rfl), bh_ HB⟩
      ·replace c23 := Bool.eq_false_iff.mpr c23
       subst c23
       have H1 : (if a0_8 ≥ x3_1 then (some (decide (a0_8 ≤ 4096))) else (some false)) = some r := by rw [if_neg (show ¬ (false = true) by decide)] at H; exact H
       clear H
       have H := H1
       clear H1
       by_cases c36 : a0_8 ≥ x3_1
       ·rw [if_pos c36] at H
        have c36b0 : decide (x3_1 ≤ a0_8) = true := decide_eq_true c36
        clear c36
        obtain rfl := Option.some.inj H
        try go_wp2
        replace BK281 := Aside0.mk (blk_drew BK281.out)
        replace HB := Aside0.mk (below_drew1 HB.out)
        refine start_ (n := 42) (S := fun w' => w'.cell? ⟨gb281, 0, none⟩ = some (.bool a0_0) ∧ w'.cell? ⟨gb281, 1, none⟩ = some (.bool a0_1) ∧ w'.cell? ⟨gb281, 2, none⟩ = some (.bool a0_2) ∧ w'.cell? ⟨gb281, 3, none⟩ = some (.bool true) ∧ w'.cell? ⟨gb281, 4, none⟩ = some (.bool false) ∧ w'.cell? ⟨gb281, 5, none⟩ = some (.bool a0_5) ∧ w'.cell? ⟨gb281, 6, none⟩ = some (.bool a0_6) ∧ w'.cell? ⟨gb281, 7, none⟩ = some (.bool a0_7) ∧ w'.cell? ⟨gb281, 8, none⟩ = some (.int .i64 a0_8)) (ds := []) bz27_0 (by kernel_rfl) rfl rfl (s9_Px27 BK281.out) (fun hHeld => ?_); refine with_tabW salvorref6_MayConvs.tab2 salvorref6_MayConvs.bits2 (fun HT_ HW_ => ?_)
        generalize wc.drew = w37 at BK281 HB hHeld ⊢
        refine pu_ 0 11 (lb_ 42 1) rfl rfl (ao_ HT_) ?_
        refine pu_ 3 14 (lb_ 42 9) rfl rfl (ao_ HT_) ?_
        refine pu_ 7 18 (lb_ 42 137) rfl rfl (ao_ HT_) ?_
        refine tk_ 1 12 (lb_ 42 139) rfl rfl (take_ofW HT_.out HW_.out (by kernel_rfl)) hHeld ?_
        refine tk_ 4 15 (lb_ 42 155) rfl rfl (take_ofW HT_.out HW_.out (by kernel_rfl)) hHeld ?_
        refine tk_ 8 19 (lb_ 42 411) rfl rfl (take_ofW HT_.out HW_.out (by kernel_rfl)) hHeld ?_
        refine one_ (i := 2) (N := some 13) bz27_1 rfl rfl (one_of HT_.out (by kernel_rfl)) (by decide) (fun K hK => ?_)
        refine gq_ Tryz.func51 (by kernel_rfl) rfl #[.bool a0_5] (by rfl) rfl rfl ?_
        with_reducible refine (salvorref6_one.calls a0_5 t286 _ A15.out).mono ?_
        rintro e w' ⟨rfl, ⟨nd, rfl⟩⟩
        refine ⟨_, rfl, ?_⟩
        refine hK.out _ _ (s9_Px27 BK281.out) (fun hHeld => ?_)
        clear hK K
        refine nm_ 13 ?_
        refine one_ (i := 5) (N := some 16) bz27_2 rfl rfl (one_of HT_.out (by kernel_rfl)) (by decide) (fun K hK => ?_)
        refine gq_ Tryz.func51 (by kernel_rfl) rfl #[.bool a0_6] (by rfl) rfl rfl ?_
        with_reducible refine (salvorref6_one.calls a0_6 t287 _ A16.out).mono ?_
        rintro e w' ⟨rfl, ⟨nd, rfl⟩⟩
        refine ⟨_, rfl, ?_⟩
        refine hK.out _ _ (s9_Px27 BK281.out) (fun hHeld => ?_)
        clear hK K
        refine nm_ 16 ?_
        refine pu_ 6 17 (lb_ 42 511) rfl rfl (ao_ HT_) ?_
        refine one_ (i := 9) (N := some 20) bz27_3 rfl rfl (one_of HT_.out (by kernel_rfl)) (by decide) (fun K hK => ?_)
        refine gq_ Tryz.func51 (by kernel_rfl) rfl #[.bool a0_7] (by rfl) rfl rfl ?_
        with_reducible refine (salvorref6_one.calls a0_7 t288 _ A17.out).mono ?_
        rintro e w' ⟨rfl, ⟨nd, rfl⟩⟩
        refine ⟨_, rfl, ?_⟩
        refine hK.out _ _ (s9_Px27 BK281.out) (fun hHeld => ?_)
        clear hK K
        refine nm_ 20 ?_
        refine pu_ 10 21 (lb_ 42 2047) rfl rfl (ao_ HT_) ?_
        refine pu_ 11 22 (lb_ 42 4095) rfl rfl (ao_ HT_) ?_
        refine pu_ 12 23 (lb_ 42 8191) rfl rfl (ao_ HT_) ?_
        refine pu_ 13 24 (lb_ 42 16383) rfl rfl (ao_ HT_) ?_
        refine tk_ 14 25 (lb_ 42 32767) rfl rfl (take_ofW HT_.out HW_.out (by kernel_rfl)) hHeld ?_
        refine pu_ 15 26 (lb_ 42 65535) rfl rfl (ao_ HT_) ?_
        refine pu_ 16 27 (lb_ 42 131071) rfl rfl (ao_ HT_) ?_
        refine tk_ 17 28 (lb_ 42 262143) rfl rfl (take_ofW HT_.out HW_.out (by kernel_rfl)) hHeld ?_
        refine pu_ 18 29 (lb_ 42 524287) rfl rfl (ao_ HT_) ?_
        refine pu_ 19 30 (lb_ 42 1048575) rfl rfl (ao_ HT_) ?_
        refine pu_ 20 31 (lb_ 42 2097151) rfl rfl (ao_ HT_) ?_
        refine pu_ 21 32 (lb_ 42 4194303) rfl rfl (ao_ HT_) ?_
        refine tk_ 22 33 (lb_ 42 8388607) rfl rfl (take_ofW HT_.out HW_.out (by kernel_rfl)) hHeld ?_
        refine one_ (i := 23) (N := some 34) bz27_4 rfl rfl (one_of HT_.out (by kernel_rfl)) (by decide) (fun K hK => ?_)
        refine gq_ Tryz.func52 (by kernel_rfl) rfl #[.agg #[.bool a0_0, .bool a0_1, .bool a0_2, .bool true, .bool false, .bool a0_5, .bool a0_6, .bool a0_7, .int .i64 a0_8]] (by rfl) rfl rfl ?_
        with_reducible refine (salvorref6_Blocks.calls a0_0 a0_1 a0_2 true false a0_5 a0_6 a0_7 a0_8 false _ A22.out).mono ?_
        rintro e w38 ⟨rfl, hb⟩
        refine ⟨_, rfl, ?_⟩
        replace BK281 := bb_ BK281 hb
        replace HB := bs_ HB hb
        (try clear hb)
        refine hK.out _ _ (s9_Px27 BK281.out) (fun hHeld => ?_)
        clear hK K
        refine nm_ 34 ?_
        refine pu_ 24 35 (lb_ 42 33554431) rfl rfl (ao_ HT_) ?_
        refine pd_ 25 36 (lb_ 42 67108863) rfl rfl (ao_ HT_) ?_
        refine pd_ 26 37 (lb_ 42 134217727) rfl rfl (ao_ HT_) ?_
        refine pu_ 27 38 (lb_ 42 268435455) rfl rfl (ao_ HT_) ?_
        refine pu_ 28 39 (lb_ 42 536870911) rfl rfl (ao_ HT_) ?_
        refine pu_ 29 40 (lb_ 42 1073741823) rfl rfl (ao_ HT_) ?_
        refine pu_ 30 41 (lb_ 42 2147483647) rfl rfl (ao_ HT_) ?_
        refine pu_ 31 42 (lb_ 42 4294967295) rfl rfl (ao_ HT_) ?_
        refine pu_ 33 44 (lb_ 42 12884901887) rfl rfl (ao_ HT_) ?_
        refine tk_ 32 43 (lb_ 42 17179869183) rfl rfl (take_ofW HT_.out HW_.out (by kernel_rfl)) hHeld ?_
        refine pu_ 34 45 (lb_ 42 34359738367) rfl rfl (ao_ HT_) ?_
        refine pu_ 35 46 (lb_ 42 68719476735) rfl rfl (ao_ HT_) ?_
        refine pu_ 36 47 (lb_ 42 137438953471) rfl rfl (ao_ HT_) ?_
        refine pu_ 37 48 (lb_ 42 274877906943) rfl rfl (ao_ HT_) ?_
        refine tk_ 38 49 (lb_ 42 549755813887) rfl rfl (take_ofW HT_.out HW_.out (by kernel_rfl)) hHeld ?_
        refine pu_ 39 50 (lb_ 42 1099511627775) rfl rfl (ao_ HT_) ?_
        refine pu_ 40 51 (lb_ 42 2199023255551) rfl rfl (ao_ HT_) ?_
        refine pu_ 41 2 (lb_ 42 4398046511103) rfl rfl (ao_ HT_) ?_
        refine done_ (done_of HT_.out (by kernel_rfl)) ?_
        try go_wp2
        go_ret
        exact ⟨by first | rfl | (simp [errW_none, errW_some] <;> rfl) | (simp [*, errW_none, errW_some] <;> rfl), bh_ HB⟩
       ·rw [if_neg c36] at H
        have c36b0 : decide (x3_1 ≤ a0_8) = false := decide_eq_false c36
        clear c36
        obtain rfl := Option.some.inj H
        try go_wp2
        replace BK281 := Aside0.mk (blk_drew BK281.out)
        replace HB := Aside0.mk (below_drew1 HB.out)
        refine start_ (n := 42) (S := fun w' => w'.cell? ⟨gb281, 0, none⟩ = some (.bool a0_0) ∧ w'.cell? ⟨gb281, 1, none⟩ = some (.bool a0_1) ∧ w'.cell? ⟨gb281, 2, none⟩ = some (.bool a0_2) ∧ w'.cell? ⟨gb281, 3, none⟩ = some (.bool true) ∧ w'.cell? ⟨gb281, 4, none⟩ = some (.bool false) ∧ w'.cell? ⟨gb281, 5, none⟩ = some (.bool a0_5) ∧ w'.cell? ⟨gb281, 6, none⟩ = some (.bool a0_6) ∧ w'.cell? ⟨gb281, 7, none⟩ = some (.bool a0_7) ∧ w'.cell? ⟨gb281, 8, none⟩ = some (.int .i64 a0_8)) (ds := []) bz27_0 (by kernel_rfl) rfl rfl (s9_Px27 BK281.out) (fun hHeld => ?_); refine with_tabW salvorref6_MayConvs.tab2 salvorref6_MayConvs.bits2 (fun HT_ HW_ => ?_)
        generalize wc.drew = w39 at BK281 HB hHeld ⊢
        refine pu_ 0 11 (lb_ 42 1) rfl rfl (ao_ HT_) ?_
        refine pu_ 3 14 (lb_ 42 9) rfl rfl (ao_ HT_) ?_
        refine pu_ 7 18 (lb_ 42 137) rfl rfl (ao_ HT_) ?_
        refine tk_ 1 12 (lb_ 42 139) rfl rfl (take_ofW HT_.out HW_.out (by kernel_rfl)) hHeld ?_
        refine tk_ 4 15 (lb_ 42 155) rfl rfl (take_ofW HT_.out HW_.out (by kernel_rfl)) hHeld ?_
        refine tk_ 8 19 (lb_ 42 411) rfl rfl (take_ofW HT_.out HW_.out (by kernel_rfl)) hHeld ?_
        refine one_ (i := 2) (N := some 13) bz27_1 rfl rfl (one_of HT_.out (by kernel_rfl)) (by decide) (fun K hK => ?_)
        refine gq_ Tryz.func51 (by kernel_rfl) rfl #[.bool a0_5] (by rfl) rfl rfl ?_
        with_reducible refine (salvorref6_one.calls a0_5 t286 _ A15.out).mono ?_
        rintro e w' ⟨rfl, ⟨nd, rfl⟩⟩
        refine ⟨_, rfl, ?_⟩
        refine hK.out _ _ (s9_Px27 BK281.out) (fun hHeld => ?_)
        clear hK K
        refine nm_ 13 ?_
        refine one_ (i := 5) (N := some 16) bz27_2 rfl rfl (one_of HT_.out (by kernel_rfl)) (by decide) (fun K hK => ?_)
        refine gq_ Tryz.func51 (by kernel_rfl) rfl #[.bool a0_6] (by rfl) rfl rfl ?_
        with_reducible refine (salvorref6_one.calls a0_6 t287 _ A16.out).mono ?_
        rintro e w' ⟨rfl, ⟨nd, rfl⟩⟩
        refine ⟨_, rfl, ?_⟩
        refine hK.out _ _ (s9_Px27 BK281.out) (fun hHeld => ?_)
        clear hK K
        refine nm_ 16 ?_
        refine pu_ 6 17 (lb_ 42 511) rfl rfl (ao_ HT_) ?_
        refine one_ (i := 9) (N := some 20) bz27_3 rfl rfl (one_of HT_.out (by kernel_rfl)) (by decide) (fun K hK => ?_)
        refine gq_ Tryz.func51 (by kernel_rfl) rfl #[.bool a0_7] (by rfl) rfl rfl ?_
        with_reducible refine (salvorref6_one.calls a0_7 t288 _ A17.out).mono ?_
        rintro e w' ⟨rfl, ⟨nd, rfl⟩⟩
        refine ⟨_, rfl, ?_⟩
        refine hK.out _ _ (s9_Px27 BK281.out) (fun hHeld => ?_)
        clear hK K
        refine nm_ 20 ?_
        refine pu_ 10 21 (lb_ 42 2047) rfl rfl (ao_ HT_) ?_
        refine pu_ 11 22 (lb_ 42 4095) rfl rfl (ao_ HT_) ?_
        refine pu_ 12 23 (lb_ 42 8191) rfl rfl (ao_ HT_) ?_
        refine pu_ 13 24 (lb_ 42 16383) rfl rfl (ao_ HT_) ?_
        refine tk_ 14 25 (lb_ 42 32767) rfl rfl (take_ofW HT_.out HW_.out (by kernel_rfl)) hHeld ?_
        refine pu_ 15 26 (lb_ 42 65535) rfl rfl (ao_ HT_) ?_
        refine pu_ 16 27 (lb_ 42 131071) rfl rfl (ao_ HT_) ?_
        refine tk_ 17 28 (lb_ 42 262143) rfl rfl (take_ofW HT_.out HW_.out (by kernel_rfl)) hHeld ?_
        refine pu_ 18 29 (lb_ 42 524287) rfl rfl (ao_ HT_) ?_
        refine pu_ 19 30 (lb_ 42 1048575) rfl rfl (ao_ HT_) ?_
        refine pu_ 20 31 (lb_ 42 2097151) rfl rfl (ao_ HT_) ?_
        refine pu_ 21 32 (lb_ 42 4194303) rfl rfl (ao_ HT_) ?_
        refine tk_ 22 33 (lb_ 42 8388607) rfl rfl (take_ofW HT_.out HW_.out (by kernel_rfl)) hHeld ?_
        refine one_ (i := 23) (N := some 34) bz27_4 rfl rfl (one_of HT_.out (by kernel_rfl)) (by decide) (fun K hK => ?_)
        refine gq_ Tryz.func52 (by kernel_rfl) rfl #[.agg #[.bool a0_0, .bool a0_1, .bool a0_2, .bool true, .bool false, .bool a0_5, .bool a0_6, .bool a0_7, .int .i64 a0_8]] (by rfl) rfl rfl ?_
        with_reducible refine (salvorref6_Blocks.calls a0_0 a0_1 a0_2 true false a0_5 a0_6 a0_7 a0_8 false _ A22.out).mono ?_
        rintro e w40 ⟨rfl, hb⟩
        refine ⟨_, rfl, ?_⟩
        replace BK281 := bb_ BK281 hb
        replace HB := bs_ HB hb
        (try clear hb)
        refine hK.out _ _ (s9_Px27 BK281.out) (fun hHeld => ?_)
        clear hK K
        refine nm_ 34 ?_
        refine pu_ 24 35 (lb_ 42 33554431) rfl rfl (ao_ HT_) ?_
        refine pd_ 25 36 (lb_ 42 67108863) rfl rfl (ao_ HT_) ?_
        refine pd_ 26 37 (lb_ 42 134217727) rfl rfl (ao_ HT_) ?_
        refine pu_ 27 38 (lb_ 42 268435455) rfl rfl (ao_ HT_) ?_
        refine pu_ 28 39 (lb_ 42 536870911) rfl rfl (ao_ HT_) ?_
        refine pu_ 29 40 (lb_ 42 1073741823) rfl rfl (ao_ HT_) ?_
        refine pu_ 30 41 (lb_ 42 2147483647) rfl rfl (ao_ HT_) ?_
        refine pu_ 31 42 (lb_ 42 4294967295) rfl rfl (ao_ HT_) ?_
        refine pu_ 33 44 (lb_ 42 12884901887) rfl rfl (ao_ HT_) ?_
        refine tk_ 32 43 (lb_ 42 17179869183) rfl rfl (take_ofW HT_.out HW_.out (by kernel_rfl)) hHeld ?_
        refine pu_ 34 45 (lb_ 42 34359738367) rfl rfl (ao_ HT_) ?_
        refine pu_ 35 46 (lb_ 42 68719476735) rfl rfl (ao_ HT_) ?_
        refine pu_ 36 47 (lb_ 42 137438953471) rfl rfl (ao_ HT_) ?_
        refine pd_ 37 48 (lb_ 42 274877906943) rfl rfl (ao_ HT_) ?_
        refine pd_ 38 49 (lb_ 42 549755813887) rfl rfl (ao_ HT_) ?_
        refine pd_ 39 50 (lb_ 42 1099511627775) rfl rfl (ao_ HT_) ?_
        refine pu_ 40 51 (lb_ 42 2199023255551) rfl rfl (ao_ HT_) ?_
        refine pu_ 41 2 (lb_ 42 4398046511103) rfl rfl (ao_ HT_) ?_
        refine done_ (done_of HT_.out (by kernel_rfl)) ?_
        try go_wp2
        go_ret
        exact ⟨by first | rfl | (simp [errW_none, errW_some] <;> rfl) | (simp [*, errW_none, errW_some] <;> rfl), bh_ HB⟩
    ·replace c19 := Bool.eq_false_iff.mpr c19
     subst c19
     have H1 : ((salvorref6_Blocks.f a0_0 a0_1 a0_2 false a0_4 a0_5 a0_6 a0_7 a0_8).bind fun t291 => (if t291 = true then ((salvorref6_Unblocks.f a0_0 a0_1 a0_2 false a0_4 a0_5 a0_6 a0_7 a0_8).bind fun t292 => (if t292 = true then (some false) else (if a0_8 ≥ x3_1 then (some (decide (a0_8 ≤ 4096))) else (some false)))) else (if a0_8 ≥ x3_1 then (some (decide (a0_8 ≤ 4096))) else (some false)))) = some r := by rw [if_neg (show ¬ (false = true) by decide)] at H; exact H
     clear H
     have H := H1
     clear H1
     replace H := Option.bind_eq_some_iff.mp H
     obtain ⟨t291, A410, H⟩ := H
     replace H : (if t291 = true then ((salvorref6_Unblocks.f a0_0 a0_1 a0_2 false a0_4 a0_5 a0_6 a0_7 a0_8).bind fun t292 => (if t292 = true then (some false) else (if a0_8 ≥ x3_1 then (some (decide (a0_8 ≤ 4096))) else (some false)))) else (if a0_8 ≥ x3_1 then (some (decide (a0_8 ≤ 4096))) else (some false))) = some r := H
     have A41 := Aside0.mk A410
     clear A410
     by_cases c42 : t291 = true
     ·subst c42
      have H1 := H; rw [if_pos rfl] at H1
      clear H
      have H := H1
      clear H1
      replace H := Option.bind_eq_some_iff.mp H
      obtain ⟨t292, A430, H⟩ := H
      replace H : (if t292 = true then (some false) else (if a0_8 ≥ x3_1 then (some (decide (a0_8 ≤ 4096))) else (some false))) = some r := H
      have A43 := Aside0.mk A430
      clear A430
      by_cases c44 : t292 = true
      ·subst c44
       have H1 := H; rw [if_pos rfl] at H1
       clear H
       have H := H1
       clear H1
       obtain rfl := Option.some.inj H
       try go_wp2
       replace BK281 := Aside0.mk (blk_drew BK281.out)
       replace HB := Aside0.mk (below_drew1 HB.out)
       refine start_ (n := 42) (S := fun w' => w'.cell? ⟨gb281, 0, none⟩ = some (.bool a0_0) ∧ w'.cell? ⟨gb281, 1, none⟩ = some (.bool a0_1) ∧ w'.cell? ⟨gb281, 2, none⟩ = some (.bool a0_2) ∧ w'.cell? ⟨gb281, 3, none⟩ = some (.bool false) ∧ w'.cell? ⟨gb281, 4, none⟩ = some (.bool a0_4) ∧ w'.cell? ⟨gb281, 5, none⟩ = some (.bool a0_5) ∧ w'.cell? ⟨gb281, 6, none⟩ = some (.bool a0_6) ∧ w'.cell? ⟨gb281, 7, none⟩ = some (.bool a0_7) ∧ w'.cell? ⟨gb281, 8, none⟩ = some (.int .i64 a0_8)) (ds := []) bz27_0 (by kernel_rfl) rfl rfl (s9_Px27 BK281.out) (fun hHeld => ?_); refine with_tabW salvorref6_MayConvs.tab2 salvorref6_MayConvs.bits2 (fun HT_ HW_ => ?_)
       generalize wc.drew = w45 at BK281 HB hHeld ⊢
       refine pu_ 0 11 (lb_ 42 1) rfl rfl (ao_ HT_) ?_
       refine pu_ 3 14 (lb_ 42 9) rfl rfl (ao_ HT_) ?_
       refine pu_ 7 18 (lb_ 42 137) rfl rfl (ao_ HT_) ?_
       refine tk_ 1 12 (lb_ 42 139) rfl rfl (take_ofW HT_.out HW_.out (by kernel_rfl)) hHeld ?_
       refine tk_ 4 15 (lb_ 42 155) rfl rfl (take_ofW HT_.out HW_.out (by kernel_rfl)) hHeld ?_
       refine tk_ 8 19 (lb_ 42 411) rfl rfl (take_ofW HT_.out HW_.out (by kernel_rfl)) hHeld ?_
       refine one_ (i := 2) (N := some 13) bz27_1 rfl rfl (one_of HT_.out (by kernel_rfl)) (by decide) (fun K hK => ?_)
       refine gq_ Tryz.func51 (by kernel_rfl) rfl #[.bool a0_5] (by rfl) rfl rfl ?_
       with_reducible refine (salvorref6_one.calls a0_5 t286 _ A15.out).mono ?_
       rintro e w' ⟨rfl, ⟨nd, rfl⟩⟩
       refine ⟨_, rfl, ?_⟩
       refine hK.out _ _ (s9_Px27 BK281.out) (fun hHeld => ?_)
       clear hK K
       refine nm_ 13 ?_
       refine one_ (i := 5) (N := some 16) bz27_2 rfl rfl (one_of HT_.out (by kernel_rfl)) (by decide) (fun K hK => ?_)
       refine gq_ Tryz.func51 (by kernel_rfl) rfl #[.bool a0_6] (by rfl) rfl rfl ?_
       with_reducible refine (salvorref6_one.calls a0_6 t287 _ A16.out).mono ?_
       rintro e w' ⟨rfl, ⟨nd, rfl⟩⟩
       refine ⟨_, rfl, ?_⟩
       refine hK.out _ _ (s9_Px27 BK281.out) (fun hHeld => ?_)
       clear hK K
       refine nm_ 16 ?_
       refine pu_ 6 17 (lb_ 42 511) rfl rfl (ao_ HT_) ?_
       refine one_ (i := 9) (N := some 20) bz27_3 rfl rfl (one_of HT_.out (by kernel_rfl)) (by decide) (fun K hK => ?_)
       refine gq_ Tryz.func51 (by kernel_rfl) rfl #[.bool a0_7] (by rfl) rfl rfl ?_
       with_reducible refine (salvorref6_one.calls a0_7 t288 _ A17.out).mono ?_
       rintro e w' ⟨rfl, ⟨nd, rfl⟩⟩
       refine ⟨_, rfl, ?_⟩
       refine hK.out _ _ (s9_Px27 BK281.out) (fun hHeld => ?_)
       clear hK K
       refine nm_ 20 ?_
       refine pu_ 10 21 (lb_ 42 2047) rfl rfl (ao_ HT_) ?_
       refine pu_ 11 22 (lb_ 42 4095) rfl rfl (ao_ HT_) ?_
       refine pu_ 12 23 (lb_ 42 8191) rfl rfl (ao_ HT_) ?_
       refine pu_ 13 24 (lb_ 42 16383) rfl rfl (ao_ HT_) ?_
       refine tk_ 14 25 (lb_ 42 32767) rfl rfl (take_ofW HT_.out HW_.out (by kernel_rfl)) hHeld ?_
       refine pu_ 15 26 (lb_ 42 65535) rfl rfl (ao_ HT_) ?_
       refine pd_ 16 27 (lb_ 42 131071) rfl rfl (ao_ HT_) ?_
       refine pd_ 17 28 (lb_ 42 262143) rfl rfl (ao_ HT_) ?_
       refine pu_ 18 29 (lb_ 42 524287) rfl rfl (ao_ HT_) ?_
       refine pu_ 19 30 (lb_ 42 1048575) rfl rfl (ao_ HT_) ?_
       refine pu_ 20 31 (lb_ 42 2097151) rfl rfl (ao_ HT_) ?_
       refine pu_ 21 32 (lb_ 42 4194303) rfl rfl (ao_ HT_) ?_
       refine tk_ 22 33 (lb_ 42 8388607) rfl rfl (take_ofW HT_.out HW_.out (by kernel_rfl)) hHeld ?_
       refine one_ (i := 23) (N := some 34) bz27_4 rfl rfl (one_of HT_.out (by kernel_rfl)) (by decide) (fun K hK => ?_)
       refine gq_ Tryz.func52 (by kernel_rfl) rfl #[.agg #[.bool a0_0, .bool a0_1, .bool a0_2, .bool false, .bool a0_4, .bool a0_5, .bool a0_6, .bool a0_7, .int .i64 a0_8]] (by rfl) rfl rfl ?_
       with_reducible refine (salvorref6_Blocks.calls a0_0 a0_1 a0_2 false a0_4 a0_5 a0_6 a0_7 a0_8 true _ A41.out).mono ?_
       rintro e w46 ⟨rfl, hb⟩
       refine ⟨_, rfl, ?_⟩
       replace BK281 := bb_ BK281 hb
       replace HB := bs_ HB hb
       (try clear hb)
       refine hK.out _ _ (s9_Px27 BK281.out) (fun hHeld => ?_)
       clear hK K
       refine nm_ 34 ?_
       refine pu_ 24 35 (lb_ 42 33554431) rfl rfl (ao_ HT_) ?_
       refine tk_ 25 36 (lb_ 42 67108863) rfl rfl (take_ofW HT_.out HW_.out (by kernel_rfl)) hHeld ?_
       refine one_ (i := 26) (N := some 37) bz27_5 rfl rfl (one_of HT_.out (by kernel_rfl)) (by decide) (fun K hK => ?_)
       refine gq_ Tryz.func53 (by kernel_rfl) rfl #[.agg #[.bool a0_0, .bool a0_1, .bool a0_2, .bool false, .bool a0_4, .bool a0_5, .bool a0_6, .bool a0_7, .int .i64 a0_8]] (by rfl) rfl rfl ?_
       with_reducible refine (salvorref6_Unblocks.calls a0_0 a0_1 a0_2 false a0_4 a0_5 a0_6 a0_7 a0_8 true _ A43.out).mono ?_
       rintro e w47 ⟨rfl, hb⟩
       refine ⟨_, rfl, ?_⟩
       replace BK281 := bb_ BK281 hb
       replace HB := bs_ HB hb
       (try clear hb)
       refine hK.out _ _ (s9_Px27 BK281.out) (fun hHeld => ?_)
       clear hK K
       refine nm_ 37 ?_
       refine pu_ 27 38 (lb_ 42 268435455) rfl rfl (ao_ HT_) ?_
       refine pu_ 28 39 (lb_ 42 536870911) rfl rfl (ao_ HT_) ?_
       refine pu_ 29 40 (lb_ 42 1073741823) rfl rfl (ao_ HT_) ?_
       refine pu_ 30 41 (lb_ 42 2147483647) rfl rfl (ao_ HT_) ?_
       refine pd_ 31 42 (lb_ 42 4294967295) rfl rfl (ao_ HT_) ?_
       refine pd_ 32 43 (lb_ 42 8589934591) rfl rfl (ao_ HT_) ?_
       refine pd_ 33 44 (lb_ 42 17179869183) rfl rfl (ao_ HT_) ?_
       refine pd_ 34 45 (lb_ 42 34359738367) rfl rfl (ao_ HT_) ?_
       refine pu_ 35 46 (lb_ 42 68719476735) rfl rfl (ao_ HT_) ?_
       refine pu_ 36 47 (lb_ 42 137438953471) rfl rfl (ao_ HT_) ?_
       refine pd_ 37 48 (lb_ 42 274877906943) rfl rfl (ao_ HT_) ?_
       refine pd_ 38 49 (lb_ 42 549755813887) rfl rfl (ao_ HT_) ?_
       refine pd_ 39 50 (lb_ 42 1099511627775) rfl rfl (ao_ HT_) ?_
       refine pu_ 40 51 (lb_ 42 2199023255551) rfl rfl (ao_ HT_) ?_
       refine pu_ 41 2 (lb_ 42 4398046511103) rfl rfl (ao_ HT_) ?_
       refine done_ (done_of HT_.out (by kernel_rfl)) ?_
       try go_wp2
       go_ret
       exact ⟨by first | rfl | (simp [errW_none, errW_some] <;> rfl) | (simp [*, errW_none, errW_some] <;> rfl), bh_ HB⟩
      ·replace c44 := Bool.eq_false_iff.mpr c44
       subst c44
       have H1 : (if a0_8 ≥ x3_1 then (some (decide (a0_8 ≤ 4096))) else (some false)) = some r := by rw [if_neg (show ¬ (false = true) by decide)] at H; exact H
       clear H
       have H := H1
       clear H1
       by_cases c48 : a0_8 ≥ x3_1
       ·rw [if_pos c48] at H
        have c48b0 : decide (x3_1 ≤ a0_8) = true := decide_eq_true c48
        clear c48
        obtain rfl := Option.some.inj H
        try go_wp2
        replace BK281 := Aside0.mk (blk_drew BK281.out)
        replace HB := Aside0.mk (below_drew1 HB.out)
        refine start_ (n := 42) (S := fun w' => w'.cell? ⟨gb281, 0, none⟩ = some (.bool a0_0) ∧ w'.cell? ⟨gb281, 1, none⟩ = some (.bool a0_1) ∧ w'.cell? ⟨gb281, 2, none⟩ = some (.bool a0_2) ∧ w'.cell? ⟨gb281, 3, none⟩ = some (.bool false) ∧ w'.cell? ⟨gb281, 4, none⟩ = some (.bool a0_4) ∧ w'.cell? ⟨gb281, 5, none⟩ = some (.bool a0_5) ∧ w'.cell? ⟨gb281, 6, none⟩ = some (.bool a0_6) ∧ w'.cell? ⟨gb281, 7, none⟩ = some (.bool a0_7) ∧ w'.cell? ⟨gb281, 8, none⟩ = some (.int .i64 a0_8)) (ds := []) bz27_0 (by kernel_rfl) rfl rfl (s9_Px27 BK281.out) (fun hHeld => ?_); refine with_tabW salvorref6_MayConvs.tab2 salvorref6_MayConvs.bits2 (fun HT_ HW_ => ?_)
        generalize wc.drew = w49 at BK281 HB hHeld ⊢
        refine pu_ 0 11 (lb_ 42 1) rfl rfl (ao_ HT_) ?_
        refine pu_ 3 14 (lb_ 42 9) rfl rfl (ao_ HT_) ?_
        refine pu_ 7 18 (lb_ 42 137) rfl rfl (ao_ HT_) ?_
        refine tk_ 1 12 (lb_ 42 139) rfl rfl (take_ofW HT_.out HW_.out (by kernel_rfl)) hHeld ?_
        refine tk_ 4 15 (lb_ 42 155) rfl rfl (take_ofW HT_.out HW_.out (by kernel_rfl)) hHeld ?_
        refine tk_ 8 19 (lb_ 42 411) rfl rfl (take_ofW HT_.out HW_.out (by kernel_rfl)) hHeld ?_
        refine one_ (i := 2) (N := some 13) bz27_1 rfl rfl (one_of HT_.out (by kernel_rfl)) (by decide) (fun K hK => ?_)
        refine gq_ Tryz.func51 (by kernel_rfl) rfl #[.bool a0_5] (by rfl) rfl rfl ?_
        with_reducible refine (salvorref6_one.calls a0_5 t286 _ A15.out).mono ?_
        rintro e w' ⟨rfl, ⟨nd, rfl⟩⟩
        refine ⟨_, rfl, ?_⟩
        refine hK.out _ _ (s9_Px27 BK281.out) (fun hHeld => ?_)
        clear hK K
        refine nm_ 13 ?_
        refine one_ (i := 5) (N := some 16) bz27_2 rfl rfl (one_of HT_.out (by kernel_rfl)) (by decide) (fun K hK => ?_)
        refine gq_ Tryz.func51 (by kernel_rfl) rfl #[.bool a0_6] (by rfl) rfl rfl ?_
        with_reducible refine (salvorref6_one.calls a0_6 t287 _ A16.out).mono ?_
        rintro e w' ⟨rfl, ⟨nd, rfl⟩⟩
        refine ⟨_, rfl, ?_⟩
        refine hK.out _ _ (s9_Px27 BK281.out) (fun hHeld => ?_)
        clear hK K
        refine nm_ 16 ?_
        refine pu_ 6 17 (lb_ 42 511) rfl rfl (ao_ HT_) ?_
        refine one_ (i := 9) (N := some 20) bz27_3 rfl rfl (one_of HT_.out (by kernel_rfl)) (by decide) (fun K hK => ?_)
        refine gq_ Tryz.func51 (by kernel_rfl) rfl #[.bool a0_7] (by rfl) rfl rfl ?_
        with_reducible refine (salvorref6_one.calls a0_7 t288 _ A17.out).mono ?_
        rintro e w' ⟨rfl, ⟨nd, rfl⟩⟩
        refine ⟨_, rfl, ?_⟩
        refine hK.out _ _ (s9_Px27 BK281.out) (fun hHeld => ?_)
        clear hK K
        refine nm_ 20 ?_
        refine pu_ 10 21 (lb_ 42 2047) rfl rfl (ao_ HT_) ?_
        refine pu_ 11 22 (lb_ 42 4095) rfl rfl (ao_ HT_) ?_
        refine pu_ 12 23 (lb_ 42 8191) rfl rfl (ao_ HT_) ?_
        refine pu_ 13 24 (lb_ 42 16383) rfl rfl (ao_ HT_) ?_
        refine tk_ 14 25 (lb_ 42 32767) rfl rfl (take_ofW HT_.out HW_.out (by kernel_rfl)) hHeld ?_
        refine pu_ 15 26 (lb_ 42 65535) rfl rfl (ao_ HT_) ?_
        refine pd_ 16 27 (lb_ 42 131071) rfl rfl (ao_ HT_) ?_
        refine pd_ 17 28 (lb_ 42 262143) rfl rfl (ao_ HT_) ?_
        refine pu_ 18 29 (lb_ 42 524287) rfl rfl (ao_ HT_) ?_
        refine pu_ 19 30 (lb_ 42 1048575) rfl rfl (ao_ HT_) ?_
        refine pu_ 20 31 (lb_ 42 2097151) rfl rfl (ao_ HT_) ?_
        refine pu_ 21 32 (lb_ 42 4194303) rfl rfl (ao_ HT_) ?_
        refine tk_ 22 33 (lb_ 42 8388607) rfl rfl (take_ofW HT_.out HW_.out (by kernel_rfl)) hHeld ?_
        refine one_ (i := 23) (N := some 34) bz27_4 rfl rfl (one_of HT_.out (by kernel_rfl)) (by decide) (fun K hK => ?_)
        refine gq_ Tryz.func52 (by kernel_rfl) rfl #[.agg #[.bool a0_0, .bool a0_1, .bool a0_2, .bool false, .bool a0_4, .bool a0_5, .bool a0_6, .bool a0_7, .int .i64 a0_8]] (by rfl) rfl rfl ?_
        with_reducible refine (salvorref6_Blocks.calls a0_0 a0_1 a0_2 false a0_4 a0_5 a0_6 a0_7 a0_8 true _ A41.out).mono ?_
        rintro e w50 ⟨rfl, hb⟩
        refine ⟨_, rfl, ?_⟩
        replace BK281 := bb_ BK281 hb
        replace HB := bs_ HB hb
        (try clear hb)
        refine hK.out _ _ (s9_Px27 BK281.out) (fun hHeld => ?_)
        clear hK K
        refine nm_ 34 ?_
        refine pu_ 24 35 (lb_ 42 33554431) rfl rfl (ao_ HT_) ?_
        refine tk_ 25 36 (lb_ 42 67108863) rfl rfl (take_ofW HT_.out HW_.out (by kernel_rfl)) hHeld ?_
        refine one_ (i := 26) (N := some 37) bz27_5 rfl rfl (one_of HT_.out (by kernel_rfl)) (by decide) (fun K hK => ?_)
        refine gq_ Tryz.func53 (by kernel_rfl) rfl #[.agg #[.bool a0_0, .bool a0_1, .bool a0_2, .bool false, .bool a0_4, .bool a0_5, .bool a0_6, .bool a0_7, .int .i64 a0_8]] (by rfl) rfl rfl ?_
        with_reducible refine (salvorref6_Unblocks.calls a0_0 a0_1 a0_2 false a0_4 a0_5 a0_6 a0_7 a0_8 false _ A43.out).mono ?_
        rintro e w51 ⟨rfl, hb⟩
        refine ⟨_, rfl, ?_⟩
        replace BK281 := bb_ BK281 hb
        replace HB := bs_ HB hb
        (try clear hb)
        refine hK.out _ _ (s9_Px27 BK281.out) (fun hHeld => ?_)
        clear hK K
        refine nm_ 37 ?_
        refine pu_ 27 38 (lb_ 42 268435455) rfl rfl (ao_ HT_) ?_
        refine pu_ 28 39 (lb_ 42 536870911) rfl rfl (ao_ HT_) ?_
        refine pu_ 29 40 (lb_ 42 1073741823) rfl rfl (ao_ HT_) ?_
        refine pu_ 30 41 (lb_ 42 2147483647) rfl rfl (ao_ HT_) ?_
        refine pu_ 31 42 (lb_ 42 4294967295) rfl rfl (ao_ HT_) ?_
        refine pu_ 33 44 (lb_ 42 12884901887) rfl rfl (ao_ HT_) ?_
        refine tk_ 32 43 (lb_ 42 17179869183) rfl rfl (take_ofW HT_.out HW_.out (by kernel_rfl)) hHeld ?_
        refine pu_ 34 45 (lb_ 42 34359738367) rfl rfl (ao_ HT_) ?_
        refine pu_ 35 46 (lb_ 42 68719476735) rfl rfl (ao_ HT_) ?_
        refine pu_ 36 47 (lb_ 42 137438953471) rfl rfl (ao_ HT_) ?_
        refine pu_ 37 48 (lb_ 42 274877906943) rfl rfl (ao_ HT_) ?_
        refine tk_ 38 49 (lb_ 42 549755813887) rfl rfl (take_ofW HT_.out HW_.out (by kernel_rfl)) hHeld ?_
        refine pu_ 39 50 (lb_ 42 1099511627775) rfl rfl (ao_ HT_) ?_
        refine pu_ 40 51 (lb_ 42 2199023255551) rfl rfl (ao_ HT_) ?_
        refine pu_ 41 2 (lb_ 42 4398046511103) rfl rfl (ao_ HT_) ?_
        refine done_ (done_of HT_.out (by kernel_rfl)) ?_
        try go_wp2
        go_ret
        exact ⟨by first | rfl | (simp [errW_none, errW_some] <;> rfl) | (simp [*, errW_none, errW_some] <;> rfl), bh_ HB⟩
       ·rw [if_neg c48] at H
        have c48b0 : decide (x3_1 ≤ a0_8) = false := decide_eq_false c48
        clear c48
        obtain rfl := Option.some.inj H
        try go_wp2
        replace BK281 := Aside0.mk (blk_drew BK281.out)
        replace HB := Aside0.mk (below_drew1 HB.out)
        refine start_ (n := 42) (S := fun w' => w'.cell? ⟨gb281, 0, none⟩ = some (.bool a0_0) ∧ w'.cell? ⟨gb281, 1, none⟩ = some (.bool a0_1) ∧ w'.cell? ⟨gb281, 2, none⟩ = some (.bool a0_2) ∧ w'.cell? ⟨gb281, 3, none⟩ = some (.bool false) ∧ w'.cell? ⟨gb281, 4, none⟩ = some (.bool a0_4) ∧ w'.cell? ⟨gb281, 5, none⟩ = some (.bool a0_5) ∧ w'.cell? ⟨gb281, 6, none⟩ = some (.bool a0_6) ∧ w'.cell? ⟨gb281, 7, none⟩ = some (.bool a0_7) ∧ w'.cell? ⟨gb281, 8, none⟩ = some (.int .i64 a0_8)) (ds := []) bz27_0 (by kernel_rfl) rfl rfl (s9_Px27 BK281.out) (fun hHeld => ?_); refine with_tabW salvorref6_MayConvs.tab2 salvorref6_MayConvs.bits2 (fun HT_ HW_ => ?_)
        generalize wc.drew = w52 at BK281 HB hHeld ⊢
        refine pu_ 0 11 (lb_ 42 1) rfl rfl (ao_ HT_) ?_
        refine pu_ 3 14 (lb_ 42 9) rfl rfl (ao_ HT_) ?_
        refine pu_ 7 18 (lb_ 42 137) rfl rfl (ao_ HT_) ?_
        refine tk_ 1 12 (lb_ 42 139) rfl rfl (take_ofW HT_.out HW_.out (by kernel_rfl)) hHeld ?_
        refine tk_ 4 15 (lb_ 42 155) rfl rfl (take_ofW HT_.out HW_.out (by kernel_rfl)) hHeld ?_
        refine tk_ 8 19 (lb_ 42 411) rfl rfl (take_ofW HT_.out HW_.out (by kernel_rfl)) hHeld ?_
        refine one_ (i := 2) (N := some 13) bz27_1 rfl rfl (one_of HT_.out (by kernel_rfl)) (by decide) (fun K hK => ?_)
        refine gq_ Tryz.func51 (by kernel_rfl) rfl #[.bool a0_5] (by rfl) rfl rfl ?_
        with_reducible refine (salvorref6_one.calls a0_5 t286 _ A15.out).mono ?_
        rintro e w' ⟨rfl, ⟨nd, rfl⟩⟩
        refine ⟨_, rfl, ?_⟩
        refine hK.out _ _ (s9_Px27 BK281.out) (fun hHeld => ?_)
        clear hK K
        refine nm_ 13 ?_
        refine one_ (i := 5) (N := some 16) bz27_2 rfl rfl (one_of HT_.out (by kernel_rfl)) (by decide) (fun K hK => ?_)
        refine gq_ Tryz.func51 (by kernel_rfl) rfl #[.bool a0_6] (by rfl) rfl rfl ?_
        with_reducible refine (salvorref6_one.calls a0_6 t287 _ A16.out).mono ?_
        rintro e w' ⟨rfl, ⟨nd, rfl⟩⟩
        refine ⟨_, rfl, ?_⟩
        refine hK.out _ _ (s9_Px27 BK281.out) (fun hHeld => ?_)
        clear hK K
        refine nm_ 16 ?_
        refine pu_ 6 17 (lb_ 42 511) rfl rfl (ao_ HT_) ?_
        refine one_ (i := 9) (N := some 20) bz27_3 rfl rfl (one_of HT_.out (by kernel_rfl)) (by decide) (fun K hK => ?_)
        refine gq_ Tryz.func51 (by kernel_rfl) rfl #[.bool a0_7] (by rfl) rfl rfl ?_
        with_reducible refine (salvorref6_one.calls a0_7 t288 _ A17.out).mono ?_
        rintro e w' ⟨rfl, ⟨nd, rfl⟩⟩
        refine ⟨_, rfl, ?_⟩
        refine hK.out _ _ (s9_Px27 BK281.out) (fun hHeld => ?_)
        clear hK K
        refine nm_ 20 ?_
        refine pu_ 10 21 (lb_ 42 2047) rfl rfl (ao_ HT_) ?_
        refine pu_ 11 22 (lb_ 42 4095) rfl rfl (ao_ HT_) ?_
        refine pu_ 12 23 (lb_ 42 8191) rfl rfl (ao_ HT_) ?_
        refine pu_ 13 24 (lb_ 42 16383) rfl rfl (ao_ HT_) ?_
        refine tk_ 14 25 (lb_ 42 32767) rfl rfl (take_ofW HT_.out HW_.out (by kernel_rfl)) hHeld ?_
        refine pu_ 15 26 (lb_ 42 65535) rfl rfl (ao_ HT_) ?_
        refine pd_ 16 27 (lb_ 42 131071) rfl rfl (ao_ HT_) ?_
        refine pd_ 17 28 (lb_ 42 262143) rfl rfl (ao_ HT_) ?_
        refine pu_ 18 29 (lb_ 42 524287) rfl rfl (ao_ HT_) ?_
        refine pu_ 19 30 (lb_ 42 1048575) rfl rfl (ao_ HT_) ?_
        refine pu_ 20 31 (lb_ 42 2097151) rfl rfl (ao_ HT_) ?_
        refine pu_ 21 32 (lb_ 42 4194303) rfl rfl (ao_ HT_) ?_
        refine tk_ 22 33 (lb_ 42 8388607) rfl rfl (take_ofW HT_.out HW_.out (by kernel_rfl)) hHeld ?_
        refine one_ (i := 23) (N := some 34) bz27_4 rfl rfl (one_of HT_.out (by kernel_rfl)) (by decide) (fun K hK => ?_)
        refine gq_ Tryz.func52 (by kernel_rfl) rfl #[.agg #[.bool a0_0, .bool a0_1, .bool a0_2, .bool false, .bool a0_4, .bool a0_5, .bool a0_6, .bool a0_7, .int .i64 a0_8]] (by rfl) rfl rfl ?_
        with_reducible refine (salvorref6_Blocks.calls a0_0 a0_1 a0_2 false a0_4 a0_5 a0_6 a0_7 a0_8 true _ A41.out).mono ?_
        rintro e w53 ⟨rfl, hb⟩
        refine ⟨_, rfl, ?_⟩
        replace BK281 := bb_ BK281 hb
        replace HB := bs_ HB hb
        (try clear hb)
        refine hK.out _ _ (s9_Px27 BK281.out) (fun hHeld => ?_)
        clear hK K
        refine nm_ 34 ?_
        refine pu_ 24 35 (lb_ 42 33554431) rfl rfl (ao_ HT_) ?_
        refine tk_ 25 36 (lb_ 42 67108863) rfl rfl (take_ofW HT_.out HW_.out (by kernel_rfl)) hHeld ?_
        refine one_ (i := 26) (N := some 37) bz27_5 rfl rfl (one_of HT_.out (by kernel_rfl)) (by decide) (fun K hK => ?_)
        refine gq_ Tryz.func53 (by kernel_rfl) rfl #[.agg #[.bool a0_0, .bool a0_1, .bool a0_2, .bool false, .bool a0_4, .bool a0_5, .bool a0_6, .bool a0_7, .int .i64 a0_8]] (by rfl) rfl rfl ?_
        with_reducible refine (salvorref6_Unblocks.calls a0_0 a0_1 a0_2 false a0_4 a0_5 a0_6 a0_7 a0_8 false _ A43.out).mono ?_
        rintro e w54 ⟨rfl, hb⟩
        refine ⟨_, rfl, ?_⟩
        replace BK281 := bb_ BK281 hb
        replace HB := bs_ HB hb
        (try clear hb)
        refine hK.out _ _ (s9_Px27 BK281.out) (fun hHeld => ?_)
        clear hK K
        refine nm_ 37 ?_
        refine pu_ 27 38 (lb_ 42 268435455) rfl rfl (ao_ HT_) ?_
        refine pu_ 28 39 (lb_ 42 536870911) rfl rfl (ao_ HT_) ?_
        refine pu_ 29 40 (lb_ 42 1073741823) rfl rfl (ao_ HT_) ?_
        refine pu_ 30 41 (lb_ 42 2147483647) rfl rfl (ao_ HT_) ?_
        refine pu_ 31 42 (lb_ 42 4294967295) rfl rfl (ao_ HT_) ?_
        refine pu_ 33 44 (lb_ 42 12884901887) rfl rfl (ao_ HT_) ?_
        refine tk_ 32 43 (lb_ 42 17179869183) rfl rfl (take_ofW HT_.out HW_.out (by kernel_rfl)) hHeld ?_
        refine pu_ 34 45 (lb_ 42 34359738367) rfl rfl (ao_ HT_) ?_
        refine pu_ 35 46 (lb_ 42 68719476735) rfl rfl (ao_ HT_) ?_
        refine pu_ 36 47 (lb_ 42 137438953471) rfl rfl (ao_ HT_) ?_
        refine pd_ 37 48 (lb_ 42 274877906943) rfl rfl (ao_ HT_) ?_
        refine pd_ 38 49 (lb_ 42 549755813887) rfl rfl (ao_ HT_) ?_
        refine pd_ 39 50 (lb_ 42 1099511627775) rfl rfl (ao_ HT_) ?_
        refine pu_ 40 51 (lb_ 42 2199023255551) rfl rfl (ao_ HT_) ?_
        refine pu_ 41 2 (lb_ 42 4398046511103) rfl rfl (ao_ HT_) ?_
        refine done_ (done_of HT_.out (by kernel_rfl)) ?_
        try go_wp2
        go_ret
        exact ⟨by first | rfl | (simp [errW_none, errW_some] <;> rfl) | (simp [*, errW_none, errW_some] <;> rfl), bh_ HB⟩
     ·replace c42 := Bool.eq_false_iff.mpr c42
      subst c42
      have H1 : (if a0_8 ≥ x3_1 then (some (decide (a0_8 ≤ 4096))) else (some false)) = some r := by rw [if_neg (show ¬ (false = true) by decide)] at H; exact H
      clear H
      have H := H1
      clear H1
      by_cases c55 : a0_8 ≥ x3_1
      ·rw [if_pos c55] at H
       have c55b0 : decide (x3_1 ≤ a0_8) = true := decide_eq_true c55
       clear c55
       obtain rfl := Option.some.inj H
       try go_wp2
       replace BK281 := Aside0.mk (blk_drew BK281.out)
       replace HB := Aside0.mk (below_drew1 HB.out)
       refine start_ (n := 42) (S := fun w' => w'.cell? ⟨gb281, 0, none⟩ = some (.bool a0_0) ∧ w'.cell? ⟨gb281, 1, none⟩ = some (.bool a0_1) ∧ w'.cell? ⟨gb281, 2, none⟩ = some (.bool a0_2) ∧ w'.cell? ⟨gb281, 3, none⟩ = some (.bool false) ∧ w'.cell? ⟨gb281, 4, none⟩ = some (.bool a0_4) ∧ w'.cell? ⟨gb281, 5, none⟩ = some (.bool a0_5) ∧ w'.cell? ⟨gb281, 6, none⟩ = some (.bool a0_6) ∧ w'.cell? ⟨gb281, 7, none⟩ = some (.bool a0_7) ∧ w'.cell? ⟨gb281, 8, none⟩ = some (.int .i64 a0_8)) (ds := []) bz27_0 (by kernel_rfl) rfl rfl (s9_Px27 BK281.out) (fun hHeld => ?_); refine with_tabW salvorref6_MayConvs.tab2 salvorref6_MayConvs.bits2 (fun HT_ HW_ => ?_)
       generalize wc.drew = w56 at BK281 HB hHeld ⊢
       refine pu_ 0 11 (lb_ 42 1) rfl rfl (ao_ HT_) ?_
       refine pu_ 3 14 (lb_ 42 9) rfl rfl (ao_ HT_) ?_
       refine pu_ 7 18 (lb_ 42 137) rfl rfl (ao_ HT_) ?_
       refine tk_ 1 12 (lb_ 42 139) rfl rfl (take_ofW HT_.out HW_.out (by kernel_rfl)) hHeld ?_
       refine tk_ 4 15 (lb_ 42 155) rfl rfl (take_ofW HT_.out HW_.out (by kernel_rfl)) hHeld ?_
       refine tk_ 8 19 (lb_ 42 411) rfl rfl (take_ofW HT_.out HW_.out (by kernel_rfl)) hHeld ?_
       refine one_ (i := 2) (N := some 13) bz27_1 rfl rfl (one_of HT_.out (by kernel_rfl)) (by decide) (fun K hK => ?_)
       refine gq_ Tryz.func51 (by kernel_rfl) rfl #[.bool a0_5] (by rfl) rfl rfl ?_
       with_reducible refine (salvorref6_one.calls a0_5 t286 _ A15.out).mono ?_
       rintro e w' ⟨rfl, ⟨nd, rfl⟩⟩
       refine ⟨_, rfl, ?_⟩
       refine hK.out _ _ (s9_Px27 BK281.out) (fun hHeld => ?_)
       clear hK K
       refine nm_ 13 ?_
       refine one_ (i := 5) (N := some 16) bz27_2 rfl rfl (one_of HT_.out (by kernel_rfl)) (by decide) (fun K hK => ?_)
       refine gq_ Tryz.func51 (by kernel_rfl) rfl #[.bool a0_6] (by rfl) rfl rfl ?_
       with_reducible refine (salvorref6_one.calls a0_6 t287 _ A16.out).mono ?_
       rintro e w' ⟨rfl, ⟨nd, rfl⟩⟩
       refine ⟨_, rfl, ?_⟩
       refine hK.out _ _ (s9_Px27 BK281.out) (fun hHeld => ?_)
       clear hK K
       refine nm_ 16 ?_
       refine pu_ 6 17 (lb_ 42 511) rfl rfl (ao_ HT_) ?_
       refine one_ (i := 9) (N := some 20) bz27_3 rfl rfl (one_of HT_.out (by kernel_rfl)) (by decide) (fun K hK => ?_)
       refine gq_ Tryz.func51 (by kernel_rfl) rfl #[.bool a0_7] (by rfl) rfl rfl ?_
       with_reducible refine (salvorref6_one.calls a0_7 t288 _ A17.out).mono ?_
       rintro e w' ⟨rfl, ⟨nd, rfl⟩⟩
       refine ⟨_, rfl, ?_⟩
       refine hK.out _ _ (s9_Px27 BK281.out) (fun hHeld => ?_)
       clear hK K
       refine nm_ 20 ?_
       refine pu_ 10 21 (lb_ 42 2047) rfl rfl (ao_ HT_) ?_
       refine pu_ 11 22 (lb_ 42 4095) rfl rfl (ao_ HT_) ?_
       refine pu_ 12 23 (lb_ 42 8191) rfl rfl (ao_ HT_) ?_
       refine pu_ 13 24 (lb_ 42 16383) rfl rfl (ao_ HT_) ?_
       refine tk_ 14 25 (lb_ 42 32767) rfl rfl (take_ofW HT_.out HW_.out (by kernel_rfl)) hHeld ?_
       refine pu_ 15 26 (lb_ 42 65535) rfl rfl (ao_ HT_) ?_
       refine pd_ 16 27 (lb_ 42 131071) rfl rfl (ao_ HT_) ?_
       refine pd_ 17 28 (lb_ 42 262143) rfl rfl (ao_ HT_) ?_
       refine pu_ 18 29 (lb_ 42 524287) rfl rfl (ao_ HT_) ?_
       refine pu_ 19 30 (lb_ 42 1048575) rfl rfl (ao_ HT_) ?_
       refine pu_ 20 31 (lb_ 42 2097151) rfl rfl (ao_ HT_) ?_
       refine pu_ 21 32 (lb_ 42 4194303) rfl rfl (ao_ HT_) ?_
       refine tk_ 22 33 (lb_ 42 8388607) rfl rfl (take_ofW HT_.out HW_.out (by kernel_rfl)) hHeld ?_
       refine one_ (i := 23) (N := some 34) bz27_4 rfl rfl (one_of HT_.out (by kernel_rfl)) (by decide) (fun K hK => ?_)
       refine gq_ Tryz.func52 (by kernel_rfl) rfl #[.agg #[.bool a0_0, .bool a0_1, .bool a0_2, .bool false, .bool a0_4, .bool a0_5, .bool a0_6, .bool a0_7, .int .i64 a0_8]] (by rfl) rfl rfl ?_
       with_reducible refine (salvorref6_Blocks.calls a0_0 a0_1 a0_2 false a0_4 a0_5 a0_6 a0_7 a0_8 false _ A41.out).mono ?_
       rintro e w57 ⟨rfl, hb⟩
       refine ⟨_, rfl, ?_⟩
       replace BK281 := bb_ BK281 hb
       replace HB := bs_ HB hb
       (try clear hb)
       refine hK.out _ _ (s9_Px27 BK281.out) (fun hHeld => ?_)
       clear hK K
       refine nm_ 34 ?_
       refine pu_ 24 35 (lb_ 42 33554431) rfl rfl (ao_ HT_) ?_
       refine pd_ 25 36 (lb_ 42 67108863) rfl rfl (ao_ HT_) ?_
       refine pd_ 26 37 (lb_ 42 134217727) rfl rfl (ao_ HT_) ?_
       refine pu_ 27 38 (lb_ 42 268435455) rfl rfl (ao_ HT_) ?_
       refine pu_ 28 39 (lb_ 42 536870911) rfl rfl (ao_ HT_) ?_
       refine pu_ 29 40 (lb_ 42 1073741823) rfl rfl (ao_ HT_) ?_
       refine pu_ 30 41 (lb_ 42 2147483647) rfl rfl (ao_ HT_) ?_
       refine pu_ 31 42 (lb_ 42 4294967295) rfl rfl (ao_ HT_) ?_
       refine pu_ 33 44 (lb_ 42 12884901887) rfl rfl (ao_ HT_) ?_
       refine tk_ 32 43 (lb_ 42 17179869183) rfl rfl (take_ofW HT_.out HW_.out (by kernel_rfl)) hHeld ?_
       refine pu_ 34 45 (lb_ 42 34359738367) rfl rfl (ao_ HT_) ?_
       refine pu_ 35 46 (lb_ 42 68719476735) rfl rfl (ao_ HT_) ?_
       refine pu_ 36 47 (lb_ 42 137438953471) rfl rfl (ao_ HT_) ?_
       refine pu_ 37 48 (lb_ 42 274877906943) rfl rfl (ao_ HT_) ?_
       refine tk_ 38 49 (lb_ 42 549755813887) rfl rfl (take_ofW HT_.out HW_.out (by kernel_rfl)) hHeld ?_
       refine pu_ 39 50 (lb_ 42 1099511627775) rfl rfl (ao_ HT_) ?_
       refine pu_ 40 51 (lb_ 42 2199023255551) rfl rfl (ao_ HT_) ?_
       refine pu_ 41 2 (lb_ 42 4398046511103) rfl rfl (ao_ HT_) ?_
       refine done_ (done_of HT_.out (by kernel_rfl)) ?_
       try go_wp2
       go_ret
       exact ⟨by first | rfl | (simp [errW_none, errW_some] <;> rfl) | (simp [*, errW_none, errW_some] <;> rfl), bh_ HB⟩
      ·rw [if_neg c55] at H
       have c55b0 : decide (x3_1 ≤ a0_8) = false := decide_eq_false c55
       clear c55
       obtain rfl := Option.some.inj H
       try go_wp2
       replace BK281 := Aside0.mk (blk_drew BK281.out)
       replace HB := Aside0.mk (below_drew1 HB.out)
       refine start_ (n := 42) (S := fun w' => w'.cell? ⟨gb281, 0, none⟩ = some (.bool a0_0) ∧ w'.cell? ⟨gb281, 1, none⟩ = some (.bool a0_1) ∧ w'.cell? ⟨gb281, 2, none⟩ = some (.bool a0_2) ∧ w'.cell? ⟨gb281, 3, none⟩ = some (.bool false) ∧ w'.cell? ⟨gb281, 4, none⟩ = some (.bool a0_4) ∧ w'.cell? ⟨gb281, 5, none⟩ = some (.bool a0_5) ∧ w'.cell? ⟨gb281, 6, none⟩ = some (.bool a0_6) ∧ w'.cell? ⟨gb281, 7, none⟩ = some (.bool a0_7) ∧ w'.cell? ⟨gb281, 8, none⟩ = some (.int .i64 a0_8)) (ds := []) bz27_0 (by kernel_rfl) rfl rfl (s9_Px27 BK281.out) (fun hHeld => ?_); refine with_tabW salvorref6_MayConvs.tab2 salvorref6_MayConvs.bits2 (fun HT_ HW_ => ?_)
       generalize wc.drew = w58 at BK281 HB hHeld ⊢
       refine pu_ 0 11 (lb_ 42 1) rfl rfl (ao_ HT_) ?_
       refine pu_ 3 14 (lb_ 42 9) rfl rfl (ao_ HT_) ?_
       refine pu_ 7 18 (lb_ 42 137) rfl rfl (ao_ HT_) ?_
       refine tk_ 1 12 (lb_ 42 139) rfl rfl (take_ofW HT_.out HW_.out (by kernel_rfl)) hHeld ?_
       refine tk_ 4 15 (lb_ 42 155) rfl rfl (take_ofW HT_.out HW_.out (by kernel_rfl)) hHeld ?_
       refine tk_ 8 19 (lb_ 42 411) rfl rfl (take_ofW HT_.out HW_.out (by kernel_rfl)) hHeld ?_
       refine one_ (i := 2) (N := some 13) bz27_1 rfl rfl (one_of HT_.out (by kernel_rfl)) (by decide) (fun K hK => ?_)
       refine gq_ Tryz.func51 (by kernel_rfl) rfl #[.bool a0_5] (by rfl) rfl rfl ?_
       with_reducible refine (salvorref6_one.calls a0_5 t286 _ A15.out).mono ?_
       rintro e w' ⟨rfl, ⟨nd, rfl⟩⟩
       refine ⟨_, rfl, ?_⟩
       refine hK.out _ _ (s9_Px27 BK281.out) (fun hHeld => ?_)
       clear hK K
       refine nm_ 13 ?_
       refine one_ (i := 5) (N := some 16) bz27_2 rfl rfl (one_of HT_.out (by kernel_rfl)) (by decide) (fun K hK => ?_)
       refine gq_ Tryz.func51 (by kernel_rfl) rfl #[.bool a0_6] (by rfl) rfl rfl ?_
       with_reducible refine (salvorref6_one.calls a0_6 t287 _ A16.out).mono ?_
       rintro e w' ⟨rfl, ⟨nd, rfl⟩⟩
       refine ⟨_, rfl, ?_⟩
       refine hK.out _ _ (s9_Px27 BK281.out) (fun hHeld => ?_)
       clear hK K
       refine nm_ 16 ?_
       refine pu_ 6 17 (lb_ 42 511) rfl rfl (ao_ HT_) ?_
       refine one_ (i := 9) (N := some 20) bz27_3 rfl rfl (one_of HT_.out (by kernel_rfl)) (by decide) (fun K hK => ?_)
       refine gq_ Tryz.func51 (by kernel_rfl) rfl #[.bool a0_7] (by rfl) rfl rfl ?_
       with_reducible refine (salvorref6_one.calls a0_7 t288 _ A17.out).mono ?_
       rintro e w' ⟨rfl, ⟨nd, rfl⟩⟩
       refine ⟨_, rfl, ?_⟩
       refine hK.out _ _ (s9_Px27 BK281.out) (fun hHeld => ?_)
       clear hK K
       refine nm_ 20 ?_
       refine pu_ 10 21 (lb_ 42 2047) rfl rfl (ao_ HT_) ?_
       refine pu_ 11 22 (lb_ 42 4095) rfl rfl (ao_ HT_) ?_
       refine pu_ 12 23 (lb_ 42 8191) rfl rfl (ao_ HT_) ?_
       refine pu_ 13 24 (lb_ 42 16383) rfl rfl (ao_ HT_) ?_
       refine tk_ 14 25 (lb_ 42 32767) rfl rfl (take_ofW HT_.out HW_.out (by kernel_rfl)) hHeld ?_
       refine pu_ 15 26 (lb_ 42 65535) rfl rfl (ao_ HT_) ?_
       refine pd_ 16 27 (lb_ 42 131071) rfl rfl (ao_ HT_) ?_
       refine pd_ 17 28 (lb_ 42 262143) rfl rfl (ao_ HT_) ?_
       refine pu_ 18 29 (lb_ 42 524287) rfl rfl (ao_ HT_) ?_
       refine pu_ 19 30 (lb_ 42 1048575) rfl rfl (ao_ HT_) ?_
       refine pu_ 20 31 (lb_ 42 2097151) rfl rfl (ao_ HT_) ?_
       refine pu_ 21 32 (lb_ 42 4194303) rfl rfl (ao_ HT_) ?_
       refine tk_ 22 33 (lb_ 42 8388607) rfl rfl (take_ofW HT_.out HW_.out (by kernel_rfl)) hHeld ?_
       refine one_ (i := 23) (N := some 34) bz27_4 rfl rfl (one_of HT_.out (by kernel_rfl)) (by decide) (fun K hK => ?_)
       refine gq_ Tryz.func52 (by kernel_rfl) rfl #[.agg #[.bool a0_0, .bool a0_1, .bool a0_2, .bool false, .bool a0_4, .bool a0_5, .bool a0_6, .bool a0_7, .int .i64 a0_8]] (by rfl) rfl rfl ?_
       with_reducible refine (salvorref6_Blocks.calls a0_0 a0_1 a0_2 false a0_4 a0_5 a0_6 a0_7 a0_8 false _ A41.out).mono ?_
       rintro e w59 ⟨rfl, hb⟩
       refine ⟨_, rfl, ?_⟩
       replace BK281 := bb_ BK281 hb
       replace HB := bs_ HB hb
       (try clear hb)
       refine hK.out _ _ (s9_Px27 BK281.out) (fun hHeld => ?_)
       clear hK K
       refine nm_ 34 ?_
       refine pu_ 24 35 (lb_ 42 33554431) rfl rfl (ao_ HT_) ?_
       refine pd_ 25 36 (lb_ 42 67108863) rfl rfl (ao_ HT_) ?_
       refine pd_ 26 37 (lb_ 42 134217727) rfl rfl (ao_ HT_) ?_
       refine pu_ 27 38 (lb_ 42 268435455) rfl rfl (ao_ HT_) ?_
       refine pu_ 28 39 (lb_ 42 536870911) rfl rfl (ao_ HT_) ?_
       refine pu_ 29 40 (lb_ 42 1073741823) rfl rfl (ao_ HT_) ?_
       refine pu_ 30 41 (lb_ 42 2147483647) rfl rfl (ao_ HT_) ?_
       refine pu_ 31 42 (lb_ 42 4294967295) rfl rfl (ao_ HT_) ?_
       refine pu_ 33 44 (lb_ 42 12884901887) rfl rfl (ao_ HT_) ?_
       refine tk_ 32 43 (lb_ 42 17179869183) rfl rfl (take_ofW HT_.out HW_.out (by kernel_rfl)) hHeld ?_
       refine pu_ 34 45 (lb_ 42 34359738367) rfl rfl (ao_ HT_) ?_
       refine pu_ 35 46 (lb_ 42 68719476735) rfl rfl (ao_ HT_) ?_
       refine pu_ 36 47 (lb_ 42 137438953471) rfl rfl (ao_ HT_) ?_
       refine pd_ 37 48 (lb_ 42 274877906943) rfl rfl (ao_ HT_) ?_
       refine pd_ 38 49 (lb_ 42 549755813887) rfl rfl (ao_ HT_) ?_
       refine pd_ 39 50 (lb_ 42 1099511627775) rfl rfl (ao_ HT_) ?_
       refine pu_ 40 51 (lb_ 42 2199023255551) rfl rfl (ao_ HT_) ?_
       refine pu_ 41 2 (lb_ 42 4398046511103) rfl rfl (ao_ HT_) ?_
       refine done_ (done_of HT_.out (by kernel_rfl)) ?_
       try go_wp2
       go_ret
       exact ⟨by first | rfl | (simp [errW_none, errW_some] <;> rfl) | (simp [*, errW_none, errW_some] <;> rfl), bh_ HB⟩
   ·rw [if_neg c18] at H
    have c18b0 : decide ((wrap64 ((wrap64 (t286 + t287)) + t288)) ≤ 1) = false := decide_eq_false c18
    clear c18
    obtain rfl := Option.some.inj H
    try go_wp2
    replace BK281 := Aside0.mk (blk_drew BK281.out)
    replace HB := Aside0.mk (below_drew1 HB.out)
    refine start_ (n := 42) (S := fun w' => w'.cell? ⟨gb281, 0, none⟩ = some (.bool a0_0) ∧ w'.cell? ⟨gb281, 1, none⟩ = some (.bool a0_1) ∧ w'.cell? ⟨gb281, 2, none⟩ = some (.bool a0_2) ∧ w'.cell? ⟨gb281, 3, none⟩ = some (.bool a0_3) ∧ w'.cell? ⟨gb281, 4, none⟩ = some (.bool a0_4) ∧ w'.cell? ⟨gb281, 5, none⟩ = some (.bool a0_5) ∧ w'.cell? ⟨gb281, 6, none⟩ = some (.bool a0_6) ∧ w'.cell? ⟨gb281, 7, none⟩ = some (.bool a0_7) ∧ w'.cell? ⟨gb281, 8, none⟩ = some (.int .i64 a0_8)) (ds := []) bz27_0 (by kernel_rfl) rfl rfl (s9_Px27 BK281.out) (fun hHeld => ?_); refine with_tabW salvorref6_MayConvs.tab2 salvorref6_MayConvs.bits2 (fun HT_ HW_ => ?_)
    generalize wc.drew = w60 at BK281 HB hHeld ⊢
    refine pu_ 0 11 (lb_ 42 1) rfl rfl (ao_ HT_) ?_
    refine pu_ 3 14 (lb_ 42 9) rfl rfl (ao_ HT_) ?_
    refine pu_ 7 18 (lb_ 42 137) rfl rfl (ao_ HT_) ?_
    refine tk_ 1 12 (lb_ 42 139) rfl rfl (take_ofW HT_.out HW_.out (by kernel_rfl)) hHeld ?_
    refine tk_ 4 15 (lb_ 42 155) rfl rfl (take_ofW HT_.out HW_.out (by kernel_rfl)) hHeld ?_
    refine tk_ 8 19 (lb_ 42 411) rfl rfl (take_ofW HT_.out HW_.out (by kernel_rfl)) hHeld ?_
    refine one_ (i := 2) (N := some 13) bz27_1 rfl rfl (one_of HT_.out (by kernel_rfl)) (by decide) (fun K hK => ?_)
    refine gq_ Tryz.func51 (by kernel_rfl) rfl #[.bool a0_5] (by rfl) rfl rfl ?_
    with_reducible refine (salvorref6_one.calls a0_5 t286 _ A15.out).mono ?_
    rintro e w' ⟨rfl, ⟨nd, rfl⟩⟩
    refine ⟨_, rfl, ?_⟩
    refine hK.out _ _ (s9_Px27 BK281.out) (fun hHeld => ?_)
    clear hK K
    refine nm_ 13 ?_
    refine one_ (i := 5) (N := some 16) bz27_2 rfl rfl (one_of HT_.out (by kernel_rfl)) (by decide) (fun K hK => ?_)
    refine gq_ Tryz.func51 (by kernel_rfl) rfl #[.bool a0_6] (by rfl) rfl rfl ?_
    with_reducible refine (salvorref6_one.calls a0_6 t287 _ A16.out).mono ?_
    rintro e w' ⟨rfl, ⟨nd, rfl⟩⟩
    refine ⟨_, rfl, ?_⟩
    refine hK.out _ _ (s9_Px27 BK281.out) (fun hHeld => ?_)
    clear hK K
    refine nm_ 16 ?_
    refine pu_ 6 17 (lb_ 42 511) rfl rfl (ao_ HT_) ?_
    refine one_ (i := 9) (N := some 20) bz27_3 rfl rfl (one_of HT_.out (by kernel_rfl)) (by decide) (fun K hK => ?_)
    refine gq_ Tryz.func51 (by kernel_rfl) rfl #[.bool a0_7] (by rfl) rfl rfl ?_
    with_reducible refine (salvorref6_one.calls a0_7 t288 _ A17.out).mono ?_
    rintro e w' ⟨rfl, ⟨nd, rfl⟩⟩
    refine ⟨_, rfl, ?_⟩
    refine hK.out _ _ (s9_Px27 BK281.out) (fun hHeld => ?_)
    clear hK K
    refine nm_ 20 ?_
    refine pu_ 10 21 (lb_ 42 2047) rfl rfl (ao_ HT_) ?_
    refine pu_ 11 22 (lb_ 42 4095) rfl rfl (ao_ HT_) ?_
    refine pu_ 12 23 (lb_ 42 8191) rfl rfl (ao_ HT_) ?_
    refine pd_ 13 24 (lb_ 42 16383) rfl rfl (ao_ HT_) ?_
    refine pd_ 14 25 (lb_ 42 32767) rfl rfl (ao_ HT_) ?_
    refine pd_ 15 26 (lb_ 42 65535) rfl rfl (ao_ HT_) ?_
    refine pd_ 16 27 (lb_ 42 131071) rfl rfl (ao_ HT_) ?_
    refine pd_ 17 28 (lb_ 42 262143) rfl rfl (ao_ HT_) ?_
    refine pd_ 18 29 (lb_ 42 524287) rfl rfl (ao_ HT_) ?_
    refine pd_ 19 30 (lb_ 42 1048575) rfl rfl (ao_ HT_) ?_
    refine pu_ 20 31 (lb_ 42 2097151) rfl rfl (ao_ HT_) ?_
    refine pu_ 21 32 (lb_ 42 4194303) rfl rfl (ao_ HT_) ?_
    refine pd_ 22 33 (lb_ 42 8388607) rfl rfl (ao_ HT_) ?_
    refine pd_ 23 34 (lb_ 42 16777215) rfl rfl (ao_ HT_) ?_
    refine pd_ 24 35 (lb_ 42 33554431) rfl rfl (ao_ HT_) ?_
    refine pd_ 25 36 (lb_ 42 67108863) rfl rfl (ao_ HT_) ?_
    refine pd_ 26 37 (lb_ 42 134217727) rfl rfl (ao_ HT_) ?_
    refine pd_ 27 38 (lb_ 42 268435455) rfl rfl (ao_ HT_) ?_
    refine pd_ 28 39 (lb_ 42 536870911) rfl rfl (ao_ HT_) ?_
    refine pu_ 29 40 (lb_ 42 1073741823) rfl rfl (ao_ HT_) ?_
    refine pu_ 30 41 (lb_ 42 2147483647) rfl rfl (ao_ HT_) ?_
    refine pd_ 31 42 (lb_ 42 4294967295) rfl rfl (ao_ HT_) ?_
    refine pd_ 32 43 (lb_ 42 8589934591) rfl rfl (ao_ HT_) ?_
    refine pd_ 33 44 (lb_ 42 17179869183) rfl rfl (ao_ HT_) ?_
    refine pd_ 34 45 (lb_ 42 34359738367) rfl rfl (ao_ HT_) ?_
    refine pu_ 35 46 (lb_ 42 68719476735) rfl rfl (ao_ HT_) ?_
    refine pu_ 36 47 (lb_ 42 137438953471) rfl rfl (ao_ HT_) ?_
    refine pd_ 37 48 (lb_ 42 274877906943) rfl rfl (ao_ HT_) ?_
    refine pd_ 38 49 (lb_ 42 549755813887) rfl rfl (ao_ HT_) ?_
    refine pd_ 39 50 (lb_ 42 1099511627775) rfl rfl (ao_ HT_) ?_
    refine pu_ 40 51 (lb_ 42 2199023255551) rfl rfl (ao_ HT_) ?_
    refine pu_ 41 2 (lb_ 42 4398046511103) rfl rfl (ao_ HT_) ?_
    refine done_ (done_of HT_.out (by kernel_rfl)) ?_
    try go_wp2
    go_ret
    exact ⟨by first | rfl | (simp [errW_none, errW_some] <;> rfl) | (simp [*, errW_none, errW_some] <;> rfl), bh_ HB⟩
end Go.Proofs.YtbmhfnncagncmaaGreatDoor.P
