/- Laid by a program of this session's own (wip/wprint.py, over the kit's print.py): functions of the given program as plain Lean functions, and that the program's calls come to their answers. -/
import Derived.Test.YtjgkfnbfjamccaaPx0
import Derived.Test.YtjgkfnbfjamccaaPx3
namespace Go.Proofs.Ytjgkfnbfjamccaa.P
open Go.RowKit Go.Proofs.YtjgkfnbfjamccaaW.PrintWords Go.Proofs.YtjgkfnbfjamccaaW.PrintLast Go.Proofs.YtjgkfnbfjamccaaW.PrintMore
attribute [local go_sem] max2_int min2_int max_two min_two max_three min_three max_four min_four   -- for this text's walks alone
set_option linter.unusedVariables false
set_option linter.unusedSimpArgs false

/-! ### region_At: function 25 -/
def region_At.l0 : Nat → Int → List (S26) → Int → Int → Option (Int × Int × Int × Bool)
 | 0, _, _, _, _ => none
 | k + 1, x1, x12, x13, x14 => if x14 < x13 then (if 0 ≤ x14 then (if x14 < (x12.length : Int) then (if x1 ≥ ((rd_T26 x12 x14).f0) then (if x1 < (wrap64 (((rd_T26 x12 x14).f0) + ((rd_T26 x12 x14).f1))) then (some ((rd_T26 x12 x14).f0, (rd_T26 x12 x14).f1, (rd_T26 x12 x14).f2, true)) else (region_At.l0 k x1 x12 x13 (wrap64 (x14 + 1)))) else (region_At.l0 k x1 x12 x13 (wrap64 (x14 + 1)))) else (none)) else (none)) else (some (0, 0, 0, false))
def region_At.f (k : Nat) (l0 : List (S26)) (a1 : Int) : Option (Int × Int × Int × Bool) := (region_May.f k l0).bind fun t320 => (if t320 = true then (region_At.l0 k a1 l0 (l0.length : Int) 0) else (some (0, 0, 0, false)))
theorem region_At.mono_l : ∀ k, (∀ y0 y1 y2 y3, LeO (region_At.l0 k y0 y1 y2 y3) (region_At.l0 (k + 1) y0 y1 y2 y3))
 | 0 => fun _ _ _ _ r h => by simp [region_At.l0] at h
 | k + 1 => by
  have ih0 := region_At.mono_l k
  ·intro y0 y1 y2 y3
   unfold region_At.l0
   repeat' first
   | (with_reducible exact ih0 _ _ _ _)
   | (with_reducible exact region_May.mono _ _)
   | (with_reducible exact LeO.refl _)
   | (with_reducible exact LeO.none _)
   | (with_reducible refine LeO.ite ?_ ?_)
   | (with_reducible refine LeO.bind ?_ (fun _ => ?_))
   | exact ih0 _ _ _ _
   | exact region_May.mono _ _
   | exact LeO.none _
   | refine LeO.ite ?_ ?_
   | refine LeO.bind ?_ (fun _ => ?_)
theorem region_At.mono : ∀ a0 a1 k, LeO (region_At.f k a0 a1) (region_At.f (k + 1) a0 a1) := by
 intro a0 a1 k
 have ih0 := region_At.mono_l k
 unfold region_At.f
 repeat' first
   | (with_reducible exact ih0 _ _ _ _)
   | (with_reducible exact region_May.mono _ _)
   | (with_reducible exact LeO.refl _)
   | (with_reducible exact LeO.none _)
   | (with_reducible refine LeO.ite ?_ ?_)
   | (with_reducible refine LeO.bind ?_ (fun _ => ?_))
   | exact ih0 _ _ _ _
   | exact region_May.mono _ _
   | exact LeO.none _
   | refine LeO.ite ?_ ?_
   | refine LeO.bind ?_ (fun _ => ?_)
set_option maxHeartbeats 8000000 in
set_option maxRecDepth 100000 in
theorem region_At.calls (k : Nat) (A0 : Option Addr) (c0 : Nat) (l0 : List (S26)) (a1 : Int) (r1 : Int) (r2 : Int) (r3 : Int) (r4 : Bool) (w : World) (hr0 : Kd.C k26 w A0 l0.length l0) (hc0 : l0.length ≤ c0) (h : region_At.f k l0 a1 = some (r1, r2, r3, r4)) :
  Calls Try.prog 25 #[.slice A0 l0.length c0, .int .i64 a1] w fun e w' => e = .returned (.tuple #[.agg #[.int .i64 r1, .int .i64 r2, .int .u8 r3], .bool r4]) ∧ Below w.heap.size w w' := by
 have hu26 := Try.underlying26
 have HR0 := Aside0.mk hr0
 have HC0 := Aside0.mk hc0
 clear hr0 hc0
 have HB := Aside0.mk (Below.refl w.heap.size w)
 have H : ((region_May.f k l0).bind fun t320 => (if t320 = true then (region_At.l0 k a1 l0 (l0.length : Int) 0) else (some (0, 0, 0, false)))) = some (r1, r2, r3, r4) := h
 clear h
 replace H := Option.bind_eq_some_iff.mp H
 obtain ⟨t320, A30, H⟩ := H
 replace H : (if t320 = true then (region_At.l0 k a1 l0 (l0.length : Int) 0) else (some (0, 0, 0, false))) = some (r1, r2, r3, r4) := H
 have A3 := Aside0.mk A30
 clear A30
 by_cases c4 : t320 = true
 ·subst c4
  have H1 : (region_At.l0 k a1 l0 (l0.length : Int) 0) = some (r1, r2, r3, r4) := by rw [if_pos rfl] at H; exact H
  clear H
  have H := H1
  clear H1
  have H' := Aside0.mk H
  clear H
  go_enter Try.func25, Try.ntmps25
  go_wp2_with (first | ((with_reducible refine gate_dst (N := 4) rfl ?_); refine box_e 4 #[.int .i64 0, .int .i64 0, .int .u8 0] 26 ?_; intro gb319 hg w5 hbox hb; have BK319 := Aside0.mk hbox; have GW319 := bg_ HB hg; have GE319 := bg_ HB hg; replace HB := bs_ HB hb; clear hb hbox hg) | ((with_reducible refine gate_callee (f := 16) rfl ?_); refine gl_ (some 9) rfl rfl Try.func16 (by kernel_rfl) rfl #[.slice A0 l0.length c0] rfl ?_; (with_reducible refine (region_May.calls k _ _ l0 true _ ?side1 ?side2 A3.out).mono ?_); (case side1 => exact cb_ HR0 HB); (case side2 => exact HC0.out); rintro e w6 ⟨rfl, hb⟩; refine ⟨_, rfl, ?_⟩; replace BK319 := bb_ BK319 hb; replace HB := bs_ HB hb; (try clear hb)))
  go_loopg [14] k (fun kq v14 w' => ∃ (x14_1 : Int) (x320000_1 : Int) (x320001_1 : Int) (x320002_1 : Int), v14 = .int .i64 x14_1 ∧ Aside0 (region_At.l0 kq a1 l0 (l0.length : Int) x14_1 = some (r1, r2, r3, r4)) ∧ Aside0 (kq ≤ k) ∧ Aside0 (w'.heap[gb319]? = some (.cells #[.int .i64 x320000_1, .int .i64 x320001_1, .int .u8 x320002_1] 26 (0, 0))) ∧ Aside0 (Below w.heap.size w w'))
  case atStart => exact ⟨(0), (0), (0), (0), (by first | rfl | (simp; done) | (simp [*]; done)), H', ⟨Nat.le_refl _⟩, ⟨bq_ BK319⟩, ⟨bh_ HB⟩⟩
  case round =>
   clear H'
   try clear c1
   try clear c2
   try clear p2
   try clear c4
   obtain ⟨x14_1, x320000_1, x320001_1, x320002_1, rfl, HA, HK1, BK319, HB⟩ := hrel
   cases gk with
   | zero => exact absurd HA.out (by simp [region_At.l0])
   | succ k1 =>
    have H := HA.out
    clear HA
    simp only [region_At.l0] at H
    by_cases c7 : x14_1 < (l0.length : Int)
    ·rw [if_pos c7] at H
     have c7b0 : decide (x14_1 < (l0.length : Int)) = true := decide_eq_true c7
     clear c7
     by_cases c8 : 0 ≤ x14_1
     ·rw [if_pos c8] at H
      have c8b0 : decide (0 ≤ x14_1) = true := decide_eq_true c8
      clear c8
      by_cases c9 : x14_1 < (l0.length : Int)
      ·rw [if_pos c9] at H
       have c9b0 : decide (x14_1 < (l0.length : Int)) = true := decide_eq_true c9
       clear c9
       by_cases c10 : a1 ≥ ((rd_T26 l0 x14_1).f0)
       ·rw [if_pos c10] at H
        have c10b0 : decide (((rd_T26 l0 x14_1).f0) ≤ a1) = true := decide_eq_true c10
        clear c10
        by_cases c11 : a1 < (wrap64 (((rd_T26 l0 x14_1).f0) + ((rd_T26 l0 x14_1).f1)))
        ·rw [if_pos c11] at H
         have c11b0 : decide (a1 < (wrap64 (((rd_T26 l0 x14_1).f0) + ((rd_T26 l0 x14_1).f1)))) = true := decide_eq_true c11
         clear c11
         simp only [Option.some.injEq, Prod.mk.injEq] at H
         obtain ⟨rfl, rfl, rfl, rfl⟩ := H
         have p321 : 0 ≤ (x14_1 : Int) := of_decide_eq_true (by first | (with_reducible assumption) | assumption)
         have q321 : x14_1 < (l0.length : Int) := of_decide_eq_true (by first | (with_reducible assumption) | assumption)
         obtain ⟨ad321, e321, hx321_0, hx321_1, hx321_2⟩ := at_T26 HR0.out x14_1 p321 q321
         cases e321
         replace hx321_0 := (HB.out.cell (World.block_lt_of_cell? w _ hx321_0)).trans hx321_0
         replace hx321_1 := (HB.out.cell (World.block_lt_of_cell? w _ hx321_1)).trans hx321_1
         replace hx321_2 := (HB.out.cell (World.block_lt_of_cell? w _ hx321_2)).trans hx321_2
         replace p321 := eq_true p321
         replace q321 := eq_true q321
         go_wp2_with (first | ((with_reducible refine gate_dst (N := 7) rfl ?_); refine box_e 7 #[.int .i64 0, .int .i64 0, .int .u8 0] 26 ?_; intro gb322 hg w12 hbox hb; have BK322 := Aside0.mk hbox; have GW322 := bg_ HB hg; have GE322 := bg_ HB hg; have NB319_322 := bn_ BK319 hg; have NB322_319 := bm_ BK319 hg; replace BK319 := bb_ BK319 hb; replace HB := bs_ HB hb; clear hb hbox hg; have hnb13 := NB322_319.out; have hnc13 := NB319_322.out; obtain ⟨hcz14_0, hcz14_1, hcz14_2, hfz14_0, hfz14_1, hfz14_2⟩ := c3_ BK322; obtain ⟨hcz15_0, hcz15_1, hcz15_2, hfz15_0, hfz15_1, hfz15_2⟩ := c3_ BK319))
         refine bodyPost_ret (results_ct rfl _ _ gb319 26 #[.int .i64 ((rd_T26 l0 x14_1).f0), .int .i64 ((rd_T26 l0 x14_1).f1), .int .u8 ((rd_T26 l0 x14_1).f2)] (0, 0) _ rfl (bp_ BK319) Try.underlying26 rfl (by kernel_rfl)) rfl ?_
         exact ⟨by first | rfl | (simp [errW_none, errW_some] <;> rfl) | (simp [*, errW_none, errW_some] <;> rfl), bh_ HB⟩
        ·rw [if_neg c11] at H
         have c11b0 : decide (a1 < (wrap64 (((rd_T26 l0 x14_1).f0) + ((rd_T26 l0 x14_1).f1)))) = false := decide_eq_false c11
         clear c11
         have H' := Aside0.mk H
         clear H
         have p321 : 0 ≤ (x14_1 : Int) := of_decide_eq_true (by first | (with_reducible assumption) | assumption)
         have q321 : x14_1 < (l0.length : Int) := of_decide_eq_true (by first | (with_reducible assumption) | assumption)
         obtain ⟨ad321, e321, hx321_0, hx321_1, hx321_2⟩ := at_T26 HR0.out x14_1 p321 q321
         cases e321
         replace hx321_0 := (HB.out.cell (World.block_lt_of_cell? w _ hx321_0)).trans hx321_0
         replace hx321_1 := (HB.out.cell (World.block_lt_of_cell? w _ hx321_1)).trans hx321_1
         replace hx321_2 := (HB.out.cell (World.block_lt_of_cell? w _ hx321_2)).trans hx321_2
         replace p321 := eq_true p321
         replace q321 := eq_true q321
         go_wp2_with (first | ((with_reducible refine gate_dst (N := 7) rfl ?_); refine box_e 7 #[.int .i64 0, .int .i64 0, .int .u8 0] 26 ?_; intro gb322 hg w16 hbox hb; have BK322 := Aside0.mk hbox; have GW322 := bg_ HB hg; have GE322 := bg_ HB hg; have NB319_322 := bn_ BK319 hg; have NB322_319 := bm_ BK319 hg; replace BK319 := bb_ BK319 hb; replace HB := bs_ HB hb; clear hb hbox hg; have hnb17 := NB322_319.out; have hnc17 := NB319_322.out; obtain ⟨hcz18_0, hcz18_1, hcz18_2, hfz18_0, hfz18_1, hfz18_2⟩ := c3_ BK322))
         go_roundg k1
         case measure => have := HK1.out; omega
         case rel => exact ⟨(wrap64 (x14_1 + 1)), (x320000_1), (x320001_1), (x320002_1), (by first | rfl | (simp; done) | (simp [*]; done)), H', ⟨by have := HK1.out; omega⟩, ⟨by (with_reducible repeat (first | refine blk_drewN ?_ _ | refine blk_drew ?_ | refine blk_alloc ?_ _)); refine blk_far ?_ NB319_322.out _; (with_reducible repeat (first | refine blk_drewN ?_ _ | refine blk_drew ?_ | refine blk_alloc ?_ _)); refine blk_far ?_ NB319_322.out _; (with_reducible repeat (first | refine blk_drewN ?_ _ | refine blk_drew ?_ | refine blk_alloc ?_ _)); refine blk_far ?_ NB319_322.out _; (with_reducible repeat (first | refine blk_drewN ?_ _ | refine blk_drew ?_ | refine blk_alloc ?_ _)); exact BK319.out⟩, ⟨bh_ HB⟩⟩
       ·rw [if_neg c10] at H
        have c10b0 : decide (((rd_T26 l0 x14_1).f0) ≤ a1) = false := decide_eq_false c10
        clear c10
        have H' := Aside0.mk H
        clear H
        have p321 : 0 ≤ (x14_1 : Int) := of_decide_eq_true (by first | (with_reducible assumption) | assumption)
        have q321 : x14_1 < (l0.length : Int) := of_decide_eq_true (by first | (with_reducible assumption) | assumption)
        obtain ⟨ad321, e321, hx321_0, hx321_1, hx321_2⟩ := at_T26 HR0.out x14_1 p321 q321
        cases e321
        replace hx321_0 := (HB.out.cell (World.block_lt_of_cell? w _ hx321_0)).trans hx321_0
        replace hx321_1 := (HB.out.cell (World.block_lt_of_cell? w _ hx321_1)).trans hx321_1
        replace hx321_2 := (HB.out.cell (World.block_lt_of_cell? w _ hx321_2)).trans hx321_2
        replace p321 := eq_true p321
        replace q321 := eq_true q321
        go_wp2_with (first | ((with_reducible refine gate_dst (N := 7) rfl ?_); refine box_e 7 #[.int .i64 0, .int .i64 0, .int .u8 0] 26 ?_; intro gb322 hg w19 hbox hb; have BK322 := Aside0.mk hbox; have GW322 := bg_ HB hg; have GE322 := bg_ HB hg; have NB319_322 := bn_ BK319 hg; have NB322_319 := bm_ BK319 hg; replace BK319 := bb_ BK319 hb; replace HB := bs_ HB hb; clear hb hbox hg; have hnb20 := NB322_319.out; have hnc20 := NB319_322.out; obtain ⟨hcz21_0, hcz21_1, hcz21_2, hfz21_0, hfz21_1, hfz21_2⟩ := c3_ BK322))
        go_roundg k1
        case measure => have := HK1.out; omega
        case rel => exact ⟨(wrap64 (x14_1 + 1)), (x320000_1), (x320001_1), (x320002_1), (by first | rfl | (simp; done) | (simp [*]; done)), H', ⟨by have := HK1.out; omega⟩, ⟨by (with_reducible repeat (first | refine blk_drewN ?_ _ | refine blk_drew ?_ | refine blk_alloc ?_ _)); refine blk_far ?_ NB319_322.out _; (with_reducible repeat (first | refine blk_drewN ?_ _ | refine blk_drew ?_ | refine blk_alloc ?_ _)); refine blk_far ?_ NB319_322.out _; (with_reducible repeat (first | refine blk_drewN ?_ _ | refine blk_drew ?_ | refine blk_alloc ?_ _)); refine blk_far ?_ NB319_322.out _; (with_reducible repeat (first | refine blk_drewN ?_ _ | refine blk_drew ?_ | refine blk_alloc ?_ _)); exact BK319.out⟩, ⟨bh_ HB⟩⟩
      ·rw [if_neg c9] at H
       exact absurd H (by simp)
     ·rw [if_neg c8] at H
      exact absurd H (by simp)
    ·rw [if_neg c7] at H
     have c7b0 : decide (x14_1 < (l0.length : Int)) = false := decide_eq_false c7
     clear c7
     simp only [Option.some.injEq, Prod.mk.injEq] at H
     obtain ⟨rfl, rfl, rfl, rfl⟩ := H
     obtain ⟨hcz22_0, hcz22_1, hcz22_2, hfz22_0, hfz22_1, hfz22_2⟩ := c3_ BK319
     go_wp2
     refine bodyPost_ret (results_ct rfl _ _ gb319 26 #[.int .i64 0, .int .i64 0, .int .u8 0] (0, 0) _ rfl (bp_ BK319) Try.underlying26 rfl (by kernel_rfl)) rfl ?_
     exact ⟨by first | rfl | (simp [errW_none, errW_some] <;> rfl) | (simp [*, errW_none, errW_some] <;> rfl), bh_ HB⟩
 ·replace c4 := Bool.eq_false_iff.mpr c4
  subst c4
  have H1 : (some (0, 0, 0, false)) = some (r1, r2, r3, r4) := by rw [if_neg (show ¬ (false = true) by decide)] at H; exact H
  clear H
  have H := H1
  clear H1
  simp only [Option.some.injEq, Prod.mk.injEq] at H
  obtain ⟨rfl, rfl, rfl, rfl⟩ := H
  go_enter Try.func25, Try.ntmps25
  go_wp2_with (first | ((with_reducible refine gate_dst (N := 4) rfl ?_); refine box_e 4 #[.int .i64 0, .int .i64 0, .int .u8 0] 26 ?_; intro gb319 hg w23 hbox hb; have BK319 := Aside0.mk hbox; have GW319 := bg_ HB hg; have GE319 := bg_ HB hg; replace HB := bs_ HB hb; clear hb hbox hg) | ((with_reducible refine gate_callee (f := 16) rfl ?_); refine gl_ (some 9) rfl rfl Try.func16 (by kernel_rfl) rfl #[.slice A0 l0.length c0] rfl ?_; (with_reducible refine (region_May.calls k _ _ l0 false _ ?side1 ?side2 A3.out).mono ?_); (case side1 => exact cb_ HR0 HB); (case side2 => exact HC0.out); rintro e w24 ⟨rfl, hb⟩; refine ⟨_, rfl, ?_⟩; replace BK319 := bb_ BK319 hb; replace HB := bs_ HB hb; (try clear hb); obtain ⟨hcz25_0, hcz25_1, hcz25_2, hfz25_0, hfz25_1, hfz25_2⟩ := c3_ BK319))
  refine bodyPost_ret (results_ct rfl _ _ gb319 26 #[.int .i64 0, .int .i64 0, .int .u8 0] (0, 0) _ rfl (bp_ BK319) Try.underlying26 rfl (by kernel_rfl)) rfl ?_
  exact ⟨by first | rfl | (simp [errW_none, errW_some] <;> rfl) | (simp [*, errW_none, errW_some] <;> rfl), bh_ HB⟩

end Go.Proofs.Ytjgkfnbfjamccaa.P
