/- Laid by a program of this session's own (wip/wprint.py, over the kit's print.py): functions of the given program as plain Lean functions, and that the program's calls come to their answers. -/
import Derived.Test.YtlcablcpcbmgeaaGreatDoorPx0
import Derived.Test.YtlcablcpcbmgeaaGreatDoorPx38
import Derived.Test.YtlcablcpcbmgeaaGreatDoorPx40
namespace Go.Proofs.YtlcablcpcbmgeaaGreatDoor.P
open Go.RowKit Go.Proofs.YtlcablcpcbmgeaaGreatDoorW.PrintWords Go.Proofs.YtlcablcpcbmgeaaGreatDoorW.PrintLast Go.Proofs.YtlcablcpcbmgeaaGreatDoorW.PrintMore
attribute [local go_sem] max2_int min2_int max_two min_two max_three min_three max_four min_four   -- for this text's walks alone
set_option linter.unusedVariables false
set_option linter.unusedSimpArgs false

/-! ### salvorlaw16_Cut_of: function 50 -/
def salvorlaw16_Cut_of.f (a0_0 : Int) (a0_1 : Int) (a0_2 : Int) : Option (Int) := (some (([63, 42, 47, 45, 43] : List Int) : List Int)).bind fun y376 => (if 0 ≤ (Int.tmod a0_2 5) then (if (Int.tmod a0_2 5) < (y376.length : Int) then (some (rd y376 (Int.tmod a0_2 5))) else (none)) else (none))
set_option maxHeartbeats 8000000 in
set_option maxRecDepth 100000 in
theorem salvorlaw16_Cut_of.calls (a0_0 : Int) (a0_1 : Int) (a0_2 : Int) (r : Int) (w : World) (h : salvorlaw16_Cut_of.f a0_0 a0_1 a0_2 = some r) :
  Calls Tryz.prog 50 #[.agg #[.int .u8 a0_0, .int .u8 a0_1, .int .u8 a0_2]] w fun e w' => e = .returned (.int .u8 r) ∧ Below w.heap.size w w' := by
 have hu75 := Tryz.underlying75
 have HB := Aside0.mk (Below.refl w.heap.size w)
 have H : ((some (([63, 42, 47, 45, 43] : List Int) : List Int)).bind fun y376 => (if 0 ≤ (Int.tmod a0_2 5) then (if (Int.tmod a0_2 5) < (y376.length : Int) then (some (rd y376 (Int.tmod a0_2 5))) else (none)) else (none))) = some r := h
 clear h
 obtain ⟨y376, hy376⟩ : ∃ y_ : List Int, y_ = (([63, 42, 47, 45, 43] : List Int)) := ⟨_, rfl⟩
 replace H : (if 0 ≤ (Int.tmod a0_2 5) then (if (Int.tmod a0_2 5) < (y376.length : Int) then (some (rd y376 (Int.tmod a0_2 5))) else (none)) else (none)) = some r := by first | (rw [hy376]; with_reducible exact H) | (have H2_ := (Option.bind_some _ _).symm.trans H; rw [hy376]; with_reducible exact H2_) | (have H2_ := (Option.bind_some _ _).symm.trans H; with_reducible exact H2_) | with_reducible exact H | (rw [hy376]; exact H) | exact H
 have Ny376 := Aside0.mk hy376
 clear hy376
 obtain ⟨ji2, hji2⟩ : ∃ j_ : Int, (Int.tmod a0_2 5) = j_ := ⟨_, rfl⟩
 replace H : (if 0 ≤ (ji2) then (if (ji2) < (y376.length : Int) then (some (rd y376 (ji2))) else (none)) else (none)) = some r := by first | (rw [hji2] at H; exact H) | (simp only [hji2] at H ⊢; exact H)
 by_cases c3 : 0 ≤ (ji2)
 ·rw [if_pos c3] at H
  have c3b0 : decide (0 ≤ (ji2)) = true := decide_eq_true c3
  clear c3
  by_cases c4 : (ji2) < (y376.length : Int)
  ·rw [if_pos c4] at H
   have c4b0 : decide ((ji2) < (y376.length : Int)) = true := decide_eq_true c4
   clear c4
   obtain rfl := Option.some.inj H
   go_enter Tryz.func50, Tryz.ntmps50
   go_wp2_with (first | ((with_reducible refine gate_dst (N := 1) rfl ?_); refine box_e 1 #[.int .u8 a0_0, .int .u8 a0_1, .int .u8 a0_2] 75 ?_; intro gb375 hg w5 hbox hb; have BK375 := Aside0.mk hbox; have GW375 := bg_ HB hg; have GE375 := bg_ HB hg; replace HB := bs_ HB hb; clear hb hbox hg) | ((with_reducible refine gate_dst (N := 3) rfl ?_); refine Kd.R_lit (Kd.int .u8) _ 5 ?hg (N := 3) ?hd (xs := ([63, 42, 47, 45, 43] : List Int)) (inner := [.int .u8 63, .int .u8 42, .int .u8 47, .int .u8 45, .int .u8 43]) (ok := fun _ => True) (okp := fun _ => True) ?hr ?hp (fun _ hk => hk) trivial (Below.refl _ _) (Nat.le_refl _) (by simp) ?_; (case hd => rfl); (case hg => rfl); (case hr => first | (go_simp; done) | (go_simp; rfl)); (case hp => exact (Reps.one (show Kd.M (Kd.int .u8) _ _ _ 63 [.int .u8 63] from rfl) (Reps.one (show Kd.M (Kd.int .u8) _ _ _ 42 [.int .u8 42] from rfl) (Reps.one (show Kd.M (Kd.int .u8) _ _ _ 47 [.int .u8 47] from rfl) (Reps.one (show Kd.M (Kd.int .u8) _ _ _ 45 [.int .u8 45] from rfl) (Reps.one (show Kd.M (Kd.int .u8) _ _ _ 43 [.int .u8 43] from rfl) (Reps.none _ _))))))); intro v377 w6 ho7 hb hg_ hnew_; clear hg_ hnew_; (first | rw [← Ny376.out] at ho7 | (simp only [Int.reduceToNat] at ho7; rw [← Ny376.out] at ho7)); have HO378 := Aside0.mk (Kd.R_lower ho7 (below_size (bh_ HB))); replace BK375 := bb_ BK375 hb; replace HB := bs_ HB hb; clear hb ho7; obtain ⟨hcz8_0, hcz8_1, hcz8_2, hfz8_0, hfz8_1, hfz8_2⟩ := c3_ BK375; obtain ⟨Ao9, co9, eo9⟩ := Kd.R_slice HO378.out; subst eo9; have p379 : 0 ≤ ((ji2) : Int) := of_decide_eq_true (by first | (with_reducible assumption) | assumption); have q379 : (ji2) < (y376.length : Int) := of_decide_eq_true (by first | (with_reducible assumption) | assumption); obtain ⟨ad379, e379, hx379_0⟩ := Kd.at_int (Kd.R_reads' HO378.out).2.2 (ji2) p379 q379; cases e379; replace p379 := eq_true p379; replace q379 := eq_true q379))
   go_ret
   exact ⟨by first | rfl | (simp [errW_none, errW_some] <;> rfl) | (simp only [← hji2]; first | rfl | (simp [errW_none, errW_some] <;> rfl)) | (simp [*, errW_none, errW_some] <;> rfl), bh_ HB⟩
  ·rw [if_neg c4] at H
   exact absurd H (by simp)
 ·rw [if_neg c3] at H
  exact absurd H (by simp)

/-! ### salvorlaw16_Made: function 18 -/
def salvorlaw16_Made.l0 : Nat → List (S75) → List (S23) → Int → Option ((List (S23)))
 | 0, _, _, _ => none
 | k + 1, x1, x5, x6 => if x6 < (x1.length : Int) then (if 0 ≤ x6 then ((salvorlaw16_Cut_of.f ((rd_T75 x1 x6).f0) ((rd_T75 x1 x6).f1) ((rd_T75 x1 x6).f2)).bind fun t386 => ((region_Set.f k x5 (wrap64 ((rd_T75 x1 x6).f0)) (wrap64 ((rd_T75 x1 x6).f1)) t386).bind fun t387 => (salvorlaw16_Made.l0 k x1 t387 (wrap64 (x6 + 1))))) else (none)) else (some x5)
def salvorlaw16_Made.f (k : Nat) (a0 : Int) (l1 : List (S75)) : Option ((List (S23))) := (region_New.f (wrap64 (a0))).bind fun t380 => (salvorlaw16_Made.l0 k l1 t380 0)
theorem salvorlaw16_Made.mono_l : ∀ k, (∀ y0 y1 y2, LeO (salvorlaw16_Made.l0 k y0 y1 y2) (salvorlaw16_Made.l0 (k + 1) y0 y1 y2))
 | 0 => fun _ _ _ r h => by simp [salvorlaw16_Made.l0] at h
 | k + 1 => by
  have ih0 := salvorlaw16_Made.mono_l k
  ·intro y0 y1 y2
   unfold salvorlaw16_Made.l0
   repeat' first
   | (with_reducible exact ih0 _ _ _)
   | (with_reducible exact region_Set.mono _ _ _ _ _)
   | (with_reducible exact LeO.refl _)
   | (with_reducible exact LeO.none _)
   | (with_reducible refine LeO.ite ?_ ?_)
   | (with_reducible refine LeO.bind ?_ (fun _ => ?_))
   | exact ih0 _ _ _
   | exact region_Set.mono _ _ _ _ _
   | exact LeO.none _
   | refine LeO.ite ?_ ?_
   | refine LeO.bind ?_ (fun _ => ?_)
theorem salvorlaw16_Made.mono : ∀ a0 a1 k, LeO (salvorlaw16_Made.f k a0 a1) (salvorlaw16_Made.f (k + 1) a0 a1) := by
 intro a0 a1 k
 have ih0 := salvorlaw16_Made.mono_l k
 unfold salvorlaw16_Made.f
 repeat' first
   | (with_reducible exact ih0 _ _ _)
   | (with_reducible exact region_Set.mono _ _ _ _ _)
   | (with_reducible exact LeO.refl _)
   | (with_reducible exact LeO.none _)
   | (with_reducible refine LeO.ite ?_ ?_)
   | (with_reducible refine LeO.bind ?_ (fun _ => ?_))
   | exact ih0 _ _ _
   | exact region_Set.mono _ _ _ _ _
   | exact LeO.none _
   | refine LeO.ite ?_ ?_
   | refine LeO.bind ?_ (fun _ => ?_)
def salvorlaw16_Made.T5 : Bool × List (List Nat × List Nat) := (true, [([], []), ([], []), ([], []), ([1, 2], [1, 2]), ([3], [3]), ([4], [4]), ([5], [5]), ([], []), ([], []), ([7, 8], [7, 8]), ([9], [9]), ([10], [10]), ([11], [11]), ([], []), ([], []), ([13, 14], [13, 14]), ([15], [15]), ([16], [16]), ([0, 6, 12, 17, 17], [0, 6, 12, 17]), ([18, 18, 0, 1, 2, 3, 4, 5, 6, 7, 8, 9, 10, 11, 12, 13, 14, 15, 16, 17, 18], [0, 18])])
def salvorlaw16_Made.B5 : List Nat := [0, 0, 0, 6, 14, 30, 62, 0, 0, 384, 896, 1920, 3968, 0, 0, 24576, 57344, 122880, 262143, 524287]
theorem salvorlaw16_Made.tab5 : rtab .any (opsOf Tryz.f18 5) = salvorlaw16_Made.T5 := by kernel_rfl
theorem salvorlaw16_Made.bits5 : waitsOk salvorlaw16_Made.T5.2 salvorlaw16_Made.B5 = true := by kernel_rfl
set_option maxHeartbeats 8000000 in
set_option maxRecDepth 100000 in
theorem salvorlaw16_Made.calls (k : Nat) (a0 : Int) (A1 : Option Addr) (c1 : Nat) (l1 : List (S75)) (r : List (S23)) (w : World) (hr1 : Kd.C k75 w A1 l1.length l1) (hc1 : l1.length ≤ c1) (h : salvorlaw16_Made.f k a0 l1 = some r) :
  Calls Tryz.prog 18 #[.int .u8 a0, .slice A1 l1.length c1] w fun e w' => ∃ v0_ : Value, e = .returned (v0_) ∧ Kd.R k23 23 w' w.heap.size (fun _ => True) v0_ r ∧ Below w.heap.size w w' := by
 have hu75 := Tryz.underlying75
 have HR1 := Aside0.mk hr1
 have HC1 := Aside0.mk hc1
 clear hr1 hc1
 have HB := Aside0.mk (Below.refl w.heap.size w)
 have H : ((region_New.f (wrap64 (a0))).bind fun t380 => (salvorlaw16_Made.l0 k l1 t380 0)) = some r := h
 clear h
 replace H := Option.bind_eq_some_iff.mp H
 obtain ⟨t380, A30, H⟩ := H
 replace H : (salvorlaw16_Made.l0 k l1 t380 0) = some r := H
 have A3 := Aside0.mk A30
 clear A30
 have H' := Aside0.mk H
 clear H
 go_enter Tryz.func18, Tryz.ntmps18
 go_wp2_with (first | ((with_reducible refine gate_callee (f := 48) rfl ?_); refine gl_ (some 9) rfl rfl Tryz.func48 (by kernel_rfl) rfl #[.int .i64 (wrap64 (a0))] rfl ?_; (with_reducible refine (region_New.calls (wrap64 (a0)) t380 _ A3.out).mono ?_); rintro e w4 ⟨v381, rfl, ho0, hb⟩; refine ⟨_, rfl, ?_⟩; have HO382 := Aside0.mk (Kd.R_lower ho0 (below_size (bh_ HB))); replace HB := bs_ HB hb; (try clear hb); (try clear hb2); (try clear hk); (try clear hi); (try clear ho0)))
 go_loopg [5, 6] k (fun kq v5 v6 w' => ∃ (x5_1 : List (S23)) (x6_1 : Int), v6 = .int .i64 x6_1 ∧ Aside0 (salvorlaw16_Made.l0 kq l1 x5_1 x6_1 = some r) ∧ Aside0 (kq ≤ k) ∧ Aside0 (Kd.R k23 23 w' w.heap.size (fun _ => True) v5 x5_1) ∧ Aside0 (Below w.heap.size w w'))
 case atStart => exact ⟨(t380), (0), (by first | rfl | (simp; done) | (simp [*]; done)), H', ⟨Nat.le_refl _⟩, ⟨by (with_reducible repeat (first | apply Kd.R_alloc | apply Kd.R_drewN | apply Kd.R_drew)); exact HO382.out⟩, ⟨bh_ HB⟩⟩
 case round =>
  clear H'
  try clear c1
  try clear p2
  try clear c4
  obtain ⟨x5_1, x6_1, rfl, HA, HK1, HO_5, HB⟩ := hrel
  cases gk with
  | zero => exact absurd HA.out (by simp [salvorlaw16_Made.l0])
  | succ k1 =>
   have H := HA.out
   clear HA
   simp only [salvorlaw16_Made.l0] at H
   by_cases c5 : x6_1 < (l1.length : Int)
   ·rw [if_pos c5] at H
    have c5b0 : decide (x6_1 < (l1.length : Int)) = true := decide_eq_true c5
    clear c5
    by_cases c6 : 0 ≤ x6_1
    ·rw [if_pos c6] at H
     have c6b0 : decide (0 ≤ x6_1) = true := decide_eq_true c6
     clear c6
     replace H := Option.bind_eq_some_iff.mp H
     obtain ⟨t386, A70, H⟩ := H
     replace H : ((region_Set.f k1 x5_1 (wrap64 ((rd_T75 l1 x6_1).f0)) (wrap64 ((rd_T75 l1 x6_1).f1)) t386).bind fun t387 => (salvorlaw16_Made.l0 k1 l1 t387 (wrap64 (x6_1 + 1)))) = some r := H
     have A7 := Aside0.mk A70
     clear A70
     replace H := Option.bind_eq_some_iff.mp H
     obtain ⟨t387, A80, H⟩ := H
     replace H : (salvorlaw16_Made.l0 k1 l1 t387 (wrap64 (x6_1 + 1))) = some r := H
     have A8 := Aside0.mk A80
     clear A80
     have H' := Aside0.mk H
     clear H
     try go_wp2
     replace HO_5 := Aside0.mk (Kd.R_drew HO_5.out)
     replace HB := Aside0.mk (below_drew1 HB.out)
     have p383 : 0 ≤ (x6_1 : Int) := of_decide_eq_true (by first | (with_reducible assumption) | assumption)
     have q383 : x6_1 < (l1.length : Int) := of_decide_eq_true (by first | (with_reducible assumption) | assumption)
     obtain ⟨ad383, e383, hx383_0, hx383_1, hx383_2⟩ := at_T75 HR1.out x6_1 p383 q383
     have hw383_2 := hx383_2
     have hw383_1 := hx383_1
     have hw383_0 := hx383_0
     cases e383
     replace hx383_0 := (HB.out.cell (World.block_lt_of_cell? w _ hx383_0)).trans hx383_0
     replace hx383_1 := (HB.out.cell (World.block_lt_of_cell? w _ hx383_1)).trans hx383_1
     replace hx383_2 := (HB.out.cell (World.block_lt_of_cell? w _ hx383_2)).trans hx383_2
     replace p383 := eq_true p383
     replace q383 := eq_true q383
     have p384 : 0 ≤ (x6_1 : Int) := of_decide_eq_true (by first | (with_reducible assumption) | assumption)
     have q384 : x6_1 < (l1.length : Int) := of_decide_eq_true (by first | (with_reducible assumption) | assumption)
     obtain ⟨ad384, e384, hx384_0, hx384_1, hx384_2⟩ := at_T75 HR1.out x6_1 p384 q384
     have hw384_2 := hx384_2
     have hw384_1 := hx384_1
     have hw384_0 := hx384_0
     obtain rfl : ad383 = ad384 := (by injection e384)
     replace hx384_0 := (HB.out.cell (World.block_lt_of_cell? w _ hx384_0)).trans hx384_0
     replace hx384_1 := (HB.out.cell (World.block_lt_of_cell? w _ hx384_1)).trans hx384_1
     replace hx384_2 := (HB.out.cell (World.block_lt_of_cell? w _ hx384_2)).trans hx384_2
     replace p384 := eq_true p384
     replace q384 := eq_true q384
     have p385 : 0 ≤ (x6_1 : Int) := of_decide_eq_true (by first | (with_reducible assumption) | assumption)
     have q385 : x6_1 < (l1.length : Int) := of_decide_eq_true (by first | (with_reducible assumption) | assumption)
     obtain ⟨ad385, e385, hx385_0, hx385_1, hx385_2⟩ := at_T75 HR1.out x6_1 p385 q385
     have hw385_2 := hx385_2
     have hw385_1 := hx385_1
     have hw385_0 := hx385_0
     obtain rfl : ad383 = ad385 := (by injection e385)
     replace hx385_0 := (HB.out.cell (World.block_lt_of_cell? w _ hx385_0)).trans hx385_0
     replace hx385_1 := (HB.out.cell (World.block_lt_of_cell? w _ hx385_1)).trans hx385_1
     replace hx385_2 := (HB.out.cell (World.block_lt_of_cell? w _ hx385_2)).trans hx385_2
     replace p385 := eq_true p385
     replace q385 := eq_true q385
     refine start_ (n := 20) (S := fun w' => w'.cell? (ad383.add ((x6_1).toNat * 3)) = some (.int .u8 ((rd_T75 l1 x6_1).f0)) ∧ w'.cell? ⟨(ad383.add ((x6_1).toNat * 3)).block, (ad383.add ((x6_1).toNat * 3)).off + 1, none⟩ = some (.int .u8 ((rd_T75 l1 x6_1).f1)) ∧ w'.cell? ⟨(ad383.add ((x6_1).toNat * 3)).block, (ad383.add ((x6_1).toNat * 3)).off + 2, none⟩ = some (.int .u8 ((rd_T75 l1 x6_1).f2)) ∧ w'.cell? (ad383.add ((x6_1).toNat * 3)) = some (.int .u8 ((rd_T75 l1 x6_1).f0)) ∧ w'.cell? ⟨(ad383.add ((x6_1).toNat * 3)).block, (ad383.add ((x6_1).toNat * 3)).off + 1, none⟩ = some (.int .u8 ((rd_T75 l1 x6_1).f1)) ∧ w'.cell? ⟨(ad383.add ((x6_1).toNat * 3)).block, (ad383.add ((x6_1).toNat * 3)).off + 2, none⟩ = some (.int .u8 ((rd_T75 l1 x6_1).f2)) ∧ w'.cell? (ad383.add ((x6_1).toNat * 3)) = some (.int .u8 ((rd_T75 l1 x6_1).f0)) ∧ w'.cell? ⟨(ad383.add ((x6_1).toNat * 3)).block, (ad383.add ((x6_1).toNat * 3)).off + 1, none⟩ = some (.int .u8 ((rd_T75 l1 x6_1).f1)) ∧ w'.cell? ⟨(ad383.add ((x6_1).toNat * 3)).block, (ad383.add ((x6_1).toNat * 3)).off + 2, none⟩ = some (.int .u8 ((rd_T75 l1 x6_1).f2))) (ds := []) #[false, false, false, false, false, false, false, false, false, false, false, false, false, false, false, false, false, false, false, false] (by kernel_rfl) rfl rfl ⟨((HB.out.cell (World.block_lt_of_cell? w _ hw383_0)).trans hw383_0), ((HB.out.cell (World.block_lt_of_cell? w _ hw383_1)).trans hw383_1), ((HB.out.cell (World.block_lt_of_cell? w _ hw383_2)).trans hw383_2), ((HB.out.cell (World.block_lt_of_cell? w _ hw384_0)).trans hw384_0), ((HB.out.cell (World.block_lt_of_cell? w _ hw384_1)).trans hw384_1), ((HB.out.cell (World.block_lt_of_cell? w _ hw384_2)).trans hw384_2), ((HB.out.cell (World.block_lt_of_cell? w _ hw385_0)).trans hw385_0), ((HB.out.cell (World.block_lt_of_cell? w _ hw385_1)).trans hw385_1), ((HB.out.cell (World.block_lt_of_cell? w _ hw385_2)).trans hw385_2)⟩ (fun hHeld => ?_); refine with_tabW salvorlaw16_Made.tab5 salvorlaw16_Made.bits5 (fun HT_ HW_ => ?_)
     generalize wr.drew = w9 at HO_5 HB hx383_0 hx383_1 hx383_2 hx384_0 hx384_1 hx384_2 hx385_0 hx385_1 hx385_2 hHeld ⊢
     refine pu_ 0 16 (lb_ 20 1) rfl rfl (ao_ HT_) ?_
     refine pu_ 1 17 (lb_ 20 3) rfl rfl (ao_ HT_) ?_
     refine pu_ 2 18 (lb_ 20 7) rfl rfl (ao_ HT_) ?_
     refine pu_ 3 19 (lb_ 20 15) rfl rfl (ao_ HT_) ?_
     refine pu_ 4 20 (lb_ 20 31) rfl rfl (ao_ HT_) ?_
     refine pu_ 7 23 (lb_ 20 159) rfl rfl (ao_ HT_) ?_
     refine pu_ 8 24 (lb_ 20 415) rfl rfl (ao_ HT_) ?_
     refine pu_ 9 25 (lb_ 20 927) rfl rfl (ao_ HT_) ?_
     refine pu_ 10 26 (lb_ 20 1951) rfl rfl (ao_ HT_) ?_
     refine pu_ 13 29 (lb_ 20 10143) rfl rfl (ao_ HT_) ?_
     refine pu_ 14 30 (lb_ 20 26527) rfl rfl (ao_ HT_) ?_
     refine pu_ 15 31 (lb_ 20 59295) rfl rfl (ao_ HT_) ?_
     refine tk_ 5 21 (lb_ 20 59327) rfl rfl (take_ofW HT_.out HW_.out (by kernel_rfl)) hHeld ?_
     refine pu_ 6 22 (lb_ 20 59391) rfl rfl (ao_ HT_) ?_
     refine tk_ 11 27 (lb_ 20 61439) rfl rfl (take_ofW HT_.out HW_.out (by kernel_rfl)) hHeld ?_
     refine pu_ 12 28 (lb_ 20 65535) rfl rfl (ao_ HT_) ?_
     refine tk_ 16 32 (lb_ 20 131071) rfl rfl (take_ofW HT_.out HW_.out (by kernel_rfl)) hHeld ?_
     refine one_ (i := 17) (N := some 33) #[true, true, true, true, true, true, true, true, true, true, true, true, true, true, true, true, true, true, false, false] rfl rfl (one_of HT_.out (by kernel_rfl)) (by decide) (fun K hK => ?_)
     refine gq_ Tryz.func50 (by kernel_rfl) rfl #[.agg #[.int .u8 ((rd_T75 l1 x6_1).f0), .int .u8 ((rd_T75 l1 x6_1).f1), .int .u8 ((rd_T75 l1 x6_1).f2)]] (by rfl) rfl rfl ?_
     with_reducible refine (salvorlaw16_Cut_of.calls ((rd_T75 l1 x6_1).f0) ((rd_T75 l1 x6_1).f1) ((rd_T75 l1 x6_1).f2) t386 _ A7.out).mono ?_
     rintro e w10 ⟨rfl, hb⟩
     refine ⟨_, rfl, ?_⟩
     have n0_ := Aside0.mk (Kd.R_below (by (with_reducible repeat (first | apply Kd.R_alloc | apply Kd.R_drewN | apply Kd.R_drew)); exact HO_5.out) hb)
     have n1_ := bs_ HB hb
     clear HO_5
     clear HB
     have HO_5 := n0_
     have HB := n1_
     clear n0_ n1_
     (try clear hb)
     obtain ⟨Ao11, co11, eo11⟩ := Kd.R_slice HO_5.out
     (first | subst eo11 | (injection eo11 with f1_ f2_ f3_; have f4_ := f1_.symm; have f5_ := f3_.symm; clear f1_ f2_ f3_; subst f4_; subst f5_))
     refine hK.out _ _ ⟨((HB.out.cell (World.block_lt_of_cell? w _ hw383_0)).trans hw383_0), ((HB.out.cell (World.block_lt_of_cell? w _ hw383_1)).trans hw383_1), ((HB.out.cell (World.block_lt_of_cell? w _ hw383_2)).trans hw383_2), ((HB.out.cell (World.block_lt_of_cell? w _ hw384_0)).trans hw384_0), ((HB.out.cell (World.block_lt_of_cell? w _ hw384_1)).trans hw384_1), ((HB.out.cell (World.block_lt_of_cell? w _ hw384_2)).trans hw384_2), ((HB.out.cell (World.block_lt_of_cell? w _ hw385_0)).trans hw385_0), ((HB.out.cell (World.block_lt_of_cell? w _ hw385_1)).trans hw385_1), ((HB.out.cell (World.block_lt_of_cell? w _ hw385_2)).trans hw385_2)⟩ (fun hHeld => ?_)
     clear hK K
     refine nm_ 33 ?_
     refine one_ (i := 18) (N := some 34) #[true, true, true, true, true, true, true, true, true, true, true, true, true, true, true, true, true, true, true, false] rfl rfl (one_of HT_.out (by kernel_rfl)) (by decide) (fun K hK => ?_)
     refine gq_ Tryz.func49 (by kernel_rfl) rfl #[.slice Ao11 x5_1.length co11, .int .i64 (wrap64 ((rd_T75 l1 x6_1).f0)), .int .i64 (wrap64 ((rd_T75 l1 x6_1).f1)), .int .u8 t386] (by rfl) rfl rfl ?_
     with_reducible refine (region_Set.calls k1 _ _ x5_1 (wrap64 ((rd_T75 l1 x6_1).f0)) (wrap64 ((rd_T75 l1 x6_1).f1)) t386 t387 _ ?side1 ?side2 A8.out).mono ?_
     (case side1 => repeat (first | exact (Kd.R_reads' HO_5.out).2.2 | (with_reducible refine Kd.C_alloc ?_ _) | (with_reducible refine Kd.C_drewN ?_ _) | (with_reducible refine Kd.C_drew ?_)))
     (case side2 => exact (Kd.R_reads' HO_5.out).2.1)
     rintro e w12 ⟨v388, rfl, ho0, hb⟩
     refine ⟨_, rfl, ?_⟩
     have n0_ := Aside0.mk (Kd.R_elder' (by (with_reducible repeat (first | apply Kd.R_alloc | apply Kd.R_drewN | apply Kd.R_drew)); exact HO_5.out) (Kd.R_base ho0) hb)
     have n1_ := Aside0.mk (Kd.R_lower (Kd.R_new' ho0 (Kd.R_lt (by (with_reducible repeat (first | apply Kd.R_alloc | apply Kd.R_drewN | apply Kd.R_drew)); exact HO_5.out))) (below_size (bh_ HB)))
     have n2_ := bs_ HB hb
     clear HO_5
     clear HB
     have HO_5 := n0_
     have HO389 := n1_
     have HB := n2_
     clear n0_ n1_ n2_
     (try clear hb)
     (try clear hb2)
     (try clear hk)
     (try clear hi)
     (try clear ho0)
     refine hK.out _ _ ⟨((HB.out.cell (World.block_lt_of_cell? w _ hw383_0)).trans hw383_0), ((HB.out.cell (World.block_lt_of_cell? w _ hw383_1)).trans hw383_1), ((HB.out.cell (World.block_lt_of_cell? w _ hw383_2)).trans hw383_2), ((HB.out.cell (World.block_lt_of_cell? w _ hw384_0)).trans hw384_0), ((HB.out.cell (World.block_lt_of_cell? w _ hw384_1)).trans hw384_1), ((HB.out.cell (World.block_lt_of_cell? w _ hw384_2)).trans hw384_2), ((HB.out.cell (World.block_lt_of_cell? w _ hw385_0)).trans hw385_0), ((HB.out.cell (World.block_lt_of_cell? w _ hw385_1)).trans hw385_1), ((HB.out.cell (World.block_lt_of_cell? w _ hw385_2)).trans hw385_2)⟩ (fun hHeld => ?_)
     clear hK K
     refine nm_ 34 ?_
     refine pu_ 19 5 (lb_ 20 1048575) rfl rfl (ao_ HT_) ?_
     refine done_ (done_of HT_.out (by kernel_rfl)) ?_
     try go_wp2
     go_roundg k1
     case measure => have := HK1.out; omega
     case rel => exact ⟨(t387), (wrap64 (x6_1 + 1)), (by first | rfl | (simp; done) | (simp [*]; done)), H', ⟨by have := HK1.out; omega⟩, ⟨by (with_reducible repeat (first | apply Kd.R_alloc | apply Kd.R_drewN | apply Kd.R_drew)); exact Kd.R_mono HO389.out (fun _ hk => trivial)⟩, ⟨bh_ HB⟩⟩
    ·rw [if_neg c6] at H
     exact absurd H (by simp)
   ·rw [if_neg c5] at H
    have c5b0 : decide (x6_1 < (l1.length : Int)) = false := decide_eq_false c5
    clear c5
    obtain rfl := Option.some.inj H
    go_wp2
    go_ret
    exact ⟨_, by first | rfl | (simp [errW_none, errW_some] <;> rfl) | (simp [*, errW_none, errW_some] <;> rfl), by (with_reducible repeat (first | apply Kd.R_alloc | apply Kd.R_drewN | apply Kd.R_drew)); exact HO_5.out, bh_ HB⟩

-- NOT PRINTED: function 51 (salvorlaw17_pick)

-- NOT PRINTED: function 19 (salvorlaw17_between)

-- NOT PRINTED: function 20 (salvorlaw17_blank)

-- NOT PRINTED: function 21 (salvorlaw17_number)

-- NOT PRINTED: function 8 (salvorlaw17_MapPads)

-- NOT PRINTED: function 9 (salvorlaw17_MapParts)

end Go.Proofs.YtlcablcpcbmgeaaGreatDoor.P
