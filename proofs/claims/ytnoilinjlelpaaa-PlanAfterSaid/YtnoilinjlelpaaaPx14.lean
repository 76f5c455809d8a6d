/- Laid by a program of this session's own (wip/wprint.py, over the kit's print.py): functions of the given program as plain Lean functions, and that the program's calls come to their answers. -/
import Derived.Test.YtnoilinjlelpaaaPx0
import Derived.Test.YtnoilinjlelpaaaPx4
import Derived.Test.YtnoilinjlelpaaaPx13
namespace Go.Proofs.Ytnoilinjlelpaaa.P
open Go.RowKit Go.Proofs.YtnoilinjlelpaaaW.PrintWords Go.Proofs.YtnoilinjlelpaaaW.PrintLast Go.Proofs.YtnoilinjlelpaaaW.PrintMore
attribute [local go_sem] max2_int min2_int max_two min_two max_three min_three max_four min_four   -- for this text's walks alone
set_option linter.unusedVariables false
set_option linter.unusedSimpArgs false

/-! ### plan_copied: function 36 -/
def plan_copied.f (a0_0 : Int) (a0_1 : Int) (a0_2 : Int) (l0_3 : List (S33)) : Option (Int × Int × Int × (List (S33))) := (api_Region_54.f l0_3).bind fun t194 => (some (a0_0, a0_1, a0_2, t194))
set_option maxHeartbeats 8000000 in
set_option maxRecDepth 100000 in
theorem plan_copied.calls (a0_0 : Int) (a0_1 : Int) (a0_2 : Int) (A0_3 : Option Addr) (c0_3 : Nat) (l0_3 : List (S33)) (r1 : Int) (r2 : Int) (r3 : Int) (r4 : List (S33)) (w : World) (hr0_3 : Kd.C k33 w A0_3 l0_3.length l0_3) (hc0_3 : l0_3.length ≤ c0_3) (h : plan_copied.f a0_0 a0_1 a0_2 l0_3 = some (r1, r2, r3, r4)) :
  Calls Try.prog 36 #[.agg #[.int .i64 a0_0, .int .i64 a0_1, .int .u8 a0_2, .slice A0_3 l0_3.length c0_3]] w fun e w' => ∃ v3_ : Value, e = .returned (.agg #[.int .i64 r1, .int .i64 r2, .int .u8 r3, v3_]) ∧ Kd.R k33 33 w' w.heap.size (fun _ => True) v3_ r4 ∧ Below w.heap.size w w' := by
 have hu26 := Try.underlying26
 have HR0_3 := Aside0.mk hr0_3
 have HC0_3 := Aside0.mk hc0_3
 clear hr0_3 hc0_3
 have HB := Aside0.mk (Below.refl w.heap.size w)
 have H : ((api_Region_54.f l0_3).bind fun t194 => (some (a0_0, a0_1, a0_2, t194))) = some (r1, r2, r3, r4) := h
 clear h
 replace H := Option.bind_eq_some_iff.mp H
 obtain ⟨t194, A20, H⟩ := H
 replace H : (some (a0_0, a0_1, a0_2, t194)) = some (r1, r2, r3, r4) := H
 have A2 := Aside0.mk A20
 clear A20
 simp only [Option.some.injEq, Prod.mk.injEq] at H
 obtain ⟨rfl, rfl, rfl, rfl⟩ := H
 go_enter Try.func36, Try.ntmps36
 go_wp2_with (first | ((with_reducible refine gate_dst (N := 1) rfl ?_); refine box_e 1 #[.int .i64 a0_0, .int .i64 a0_1, .int .u8 a0_2, .slice A0_3 l0_3.length c0_3] 26 ?_; intro gb192 hg w3 hbox hb; have BK192 := Aside0.mk hbox; have GW192 := bg_ HB hg; have GE192 := bg_ HB hg; replace HB := bs_ HB hb; clear hb hbox hg) | ((with_reducible refine gate_dst (N := 2) rfl ?_); refine box_e 2 #[.int .i64 0, .int .i64 0, .int .u8 0, .slice none 0 0] 26 ?_; intro gb193 hg w4 hbox hb; have BK193 := Aside0.mk hbox; have GW193 := bg_ HB hg; have GE193 := bg_ HB hg; have NB192_193 := bn_ BK192 hg; have NB193_192 := bm_ BK192 hg; replace BK192 := bb_ BK192 hb; replace HB := bs_ HB hb; clear hb hbox hg; have hnb5 := NB192_193.out; have hnc5 := NB193_192.out; obtain ⟨hcz6_0, hcz6_1, hcz6_2, hcz6_3, hfz6_0, hfz6_1, hfz6_2, hfz6_3⟩ := c4_ BK192) | ((with_reducible refine gate_callee (f := 54) rfl ?_); refine gl_ (some 5) rfl rfl Try.func54 (by kernel_rfl) rfl #[.slice A0_3 l0_3.length c0_3] rfl ?_; (with_reducible refine (api_Region_54.calls _ _ l0_3 t194 _ ?side1 ?side2 A2.out).mono ?_); (case side1 => exact cb_ HR0_3 HB); (case side2 => exact HC0_3.out); rintro e w7 ⟨v195, rfl, ho0, hb⟩; refine ⟨_, rfl, ?_⟩; have HO196 := Aside0.mk (Kd.R_lower ho0 (below_size (bh_ HB))); replace BK192 := bb_ BK192 hb; replace BK193 := bb_ BK193 hb; replace HB := bs_ HB hb; (try clear hb); (try clear hb2); (try clear hk); (try clear hi); (try clear ho0); obtain ⟨Ao8, co8, eo8⟩ := Kd.R_slice HO196.out; subst eo8; obtain ⟨hcz9_0, hcz9_1, hcz9_2, hcz9_3, hfz9_0, hfz9_1, hfz9_2, hfz9_3⟩ := c4_ BK192; obtain ⟨hcz10_0, hcz10_1, hcz10_2, hcz10_3, hfz10_0, hfz10_1, hfz10_2, hfz10_3⟩ := c4_ BK193))
 refine bodyPost_ret (results_cell_row rfl _ _ gb193 26 #[.int .i64 a0_0, .int .i64 a0_1, .int .u8 a0_2, .slice Ao8 t194.length co8] (0, 0) _ rfl (bp_ BK193) Try.underlying26 rfl (by kernel_rfl)) rfl ?_
 exact ⟨_, by first | rfl | (simp [errW_none, errW_some] <;> rfl) | (simp [*, errW_none, errW_some] <;> rfl), by (with_reducible repeat (first | apply Kd.R_alloc | apply Kd.R_drewN | apply Kd.R_drew)); exact Kd.R_mono (Kd.R_far (p := ⟨gb193, 3, none⟩) (Kd.R_far (p := ⟨gb193, 2, none⟩) (Kd.R_far (p := ⟨gb193, 1, none⟩) (Kd.R_far (p := ⟨gb193, 0, none⟩) (Kd.R_far (p := ⟨gb192, 3, none⟩) (Kd.R_types (Kd.R_types HO196.out BK192.out (by decide)) BK193.out (by decide)) (fun _ hk => hk.1.2) (.slice Ao8 t194.length co8)) (fun _ hk => hk.2) (.int .i64 a0_0)) (fun _ hk => hk.2) (.int .i64 a0_1)) (fun _ hk => hk.2) (.int .u8 a0_2)) (fun _ hk => hk.2) (.slice Ao8 t194.length co8)) (fun _ hk => trivial), bh_ HB⟩

/-! ### region_At: function 20 -/
def region_At.l0 : Nat → Int → List (S33) → Int → Int → Option (Int × Int × Int × Bool)
 | 0, _, _, _, _ => none
 | k + 1, x1, x12, x13, x14 => if x14 < x13 then (if 0 ≤ x14 then (if x14 < (x12.length : Int) then (if x1 ≥ ((rd_T33 x12 x14).f0) then (if x1 < (wrap64 (((rd_T33 x12 x14).f0) + ((rd_T33 x12 x14).f1))) then (some ((rd_T33 x12 x14).f0, (rd_T33 x12 x14).f1, (rd_T33 x12 x14).f2, true)) else (region_At.l0 k x1 x12 x13 (wrap64 (x14 + 1)))) else (region_At.l0 k x1 x12 x13 (wrap64 (x14 + 1)))) else (none)) else (none)) else (some (0, 0, 0, false))
def region_At.f (k : Nat) (l0 : List (S33)) (a1 : Int) : Option (Int × Int × Int × Bool) := (region_May.f k l0).bind fun t198 => (if t198 = true then (region_At.l0 k a1 l0 (l0.length : Int) 0) else (some (0, 0, 0, false)))
theorem region_At.mono_l : ∀ k, (∀ y0 y1 y2 y3, LeO (region_At.l0 k y0 y1 y2 y3) (region_At.l0 (k + 1) y0 y1 y2 y3))
 | 0 => fun _ _ _ _ r h => by simp [region_At.l0] at h
 | k + 1 => by
  have ih0 := region_At.mono_l k
  ·intro y0 y1 y2 y3
   unfold region_At.l0
   repeat' first
   | (with_reducible exact ih0 _ _ _ _)
   | (with_reducible exact region_May.mono _ _)
   | (with_reducible exact LeO.refl _)
   | (with_reducible exact LeO.none _)
   | (with_reducible refine LeO.ite ?_ ?_)
   | (with_reducible refine LeO.bind ?_ (fun _ => ?_))
   | exact ih0 _ _ _ _
   | exact region_May.mono _ _
   | exact LeO.none _
   | refine LeO.ite ?_ ?_
   | refine LeO.bind ?_ (fun _ => ?_)
theorem region_At.mono : ∀ a0 a1 k, LeO (region_At.f k a0 a1) (region_At.f (k + 1) a0 a1) := by
 intro a0 a1 k
 have ih0 := region_At.mono_l k
 unfold region_At.f
 repeat' first
   | (with_reducible exact ih0 _ _ _ _)
   | (with_reducible exact region_May.mono _ _)
   | (with_reducible exact LeO.refl _)
   | (with_reducible exact LeO.none _)
   | (with_reducible refine LeO.ite ?_ ?_)
   | (with_reducible refine LeO.bind ?_ (fun _ => ?_))
   | exact ih0 _ _ _ _
   | exact region_May.mono _ _
   | exact LeO.none _
   | refine LeO.ite ?_ ?_
   | refine LeO.bind ?_ (fun _ => ?_)
set_option maxHeartbeats 8000000 in
set_option maxRecDepth 100000 in
theorem region_At.calls (k : Nat) (A0 : Option Addr) (c0 : Nat) (l0 : List (S33)) (a1 : Int) (r1 : Int) (r2 : Int) (r3 : Int) (r4 : Bool) (w : World) (hr0 : Kd.C k33 w A0 l0.length l0) (hc0 : l0.length ≤ c0) (h : region_At.f k l0 a1 = some (r1, r2, r3, r4)) :
  Calls Try.prog 20 #[.slice A0 l0.length c0, .int .i64 a1] w fun e w' => e = .returned (.tuple #[.agg #[.int .i64 r1, .int .i64 r2, .int .u8 r3], .bool r4]) ∧ Below w.heap.size w w' := by
 have hu33 := Try.underlying33
 have HR0 := Aside0.mk hr0
 have HC0 := Aside0.mk hc0
 clear hr0 hc0
 have HB := Aside0.mk (Below.refl w.heap.size w)
 have H : ((region_May.f k l0).bind fun t198 => (if t198 = true then (region_At.l0 k a1 l0 (l0.length : Int) 0) else (some (0, 0, 0, false)))) = some (r1, r2, r3, r4) := h
 clear h
 replace H := Option.bind_eq_some_iff.mp H
 obtain ⟨t198, A30, H⟩ := H
 replace H : (if t198 = true then (region_At.l0 k a1 l0 (l0.length : Int) 0) else (some (0, 0, 0, false))) = some (r1, r2, r3, r4) := H
 have A3 := Aside0.mk A30
 clear A30
 by_cases c4 : t198 = true
 ·subst c4
  have H1 : (region_At.l0 k a1 l0 (l0.length : Int) 0) = some (r1, r2, r3, r4) := by rw [if_pos rfl] at H; exact H
  clear H
  have H := H1
  clear H1
  have H' := Aside0.mk H
  clear H
  go_enter Try.func20, Try.ntmps20
  go_wp2_with (first | ((with_reducible refine gate_dst (N := 4) rfl ?_); refine box_e 4 #[.int .i64 0, .int .i64 0, .int .u8 0] 33 ?_; intro gb197 hg w5 hbox hb; have BK197 := Aside0.mk hbox; have GW197 := bg_ HB hg; have GE197 := bg_ HB hg; replace HB := bs_ HB hb; clear hb hbox hg) | ((with_reducible refine gate_callee (f := 45) rfl ?_); refine gl_ (some 9) rfl rfl Try.func45 (by kernel_rfl) rfl #[.slice A0 l0.length c0] rfl ?_; (with_reducible refine (region_May.calls k _ _ l0 true _ ?side1 ?side2 A3.out).mono ?_); (case side1 => exact cb_ HR0 HB); (case side2 => exact HC0.out); rintro e w6 ⟨rfl, hb⟩; refine ⟨_, rfl, ?_⟩; replace BK197 := bb_ BK197 hb; replace HB := bs_ HB hb; (try clear hb)))
  go_loopg [14] k (fun kq v14 w' => ∃ (x14_1 : Int) (x198000_1 : Int) (x198001_1 : Int) (x198002_1 : Int), v14 = .int .i64 x14_1 ∧ Aside0 (region_At.l0 kq a1 l0 (l0.length : Int) x14_1 = some (r1, r2, r3, r4)) ∧ Aside0 (kq ≤ k) ∧ Aside0 (w'.heap[gb197]? = some (.cells #[.int .i64 x198000_1, .int .i64 x198001_1, .int .u8 x198002_1] 33 (0, 0))) ∧ Aside0 (Below w.heap.size w w'))
  case atStart => exact ⟨(0), (0), (0), (0), (by first | rfl | (simp; done) | (simp [*]; done)), H', ⟨Nat.le_refl _⟩, ⟨bq_ BK197⟩, ⟨bh_ HB⟩⟩
  case round =>
   clear H'
   try clear c2
   try clear p2
   try clear c4
   obtain ⟨x14_1, x198000_1, x198001_1, x198002_1, rfl, HA, HK1, BK197, HB⟩ := hrel
   cases gk with
   | zero => exact absurd HA.out (by simp [region_At.l0])
   | succ k1 =>
    have H := HA.out
    clear HA
    simp only [region_At.l0] at H
    by_cases c7 : x14_1 < (l0.length : Int)
    ·rw [if_pos c7] at H
     have c7b0 : decide (x14_1 < (l0.length : Int)) = true := decide_eq_true c7
     clear c7
     by_cases c8 : 0 ≤ x14_1
     ·rw [if_pos c8] at H
      have c8b0 : decide (0 ≤ x14_1) = true := decide_eq_true c8
      clear c8
      by_cases c9 : x14_1 < (l0.length : Int)
      ·rw [if_pos c9] at H
       have c9b0 : decide (x14_1 < (l0.length : Int)) = true := decide_eq_true c9
       clear c9
       by_cases c10 : a1 ≥ ((rd_T33 l0 x14_1).f0)
       ·rw [if_pos c10] at H
        have c10b0 : decide (((rd_T33 l0 x14_1).f0) ≤ a1) = true := decide_eq_true c10
        clear c10
        by_cases c11 : a1 < (wrap64 (((rd_T33 l0 x14_1).f0) + ((rd_T33 l0 x14_1).f1)))
        ·rw [if_pos c11] at H
         have c11b0 : decide (a1 < (wrap64 (((rd_T33 l0 x14_1).f0) + ((rd_T33 l0 x14_1).f1)))) = true := decide_eq_true c11
         clear c11
         simp only [Option.some.injEq, Prod.mk.injEq] at H
         obtain ⟨rfl, rfl, rfl, rfl⟩ := H
         have p199 : 0 ≤ (x14_1 : Int) := of_decide_eq_true (by first | (with_reducible assumption) | assumption)
         have q199 : x14_1 < (l0.length : Int) := of_decide_eq_true (by first | (with_reducible assumption) | assumption)
         obtain ⟨ad199, e199, hx199_0, hx199_1, hx199_2⟩ := at_T33 HR0.out x14_1 p199 q199
         cases e199
         replace hx199_0 := (HB.out.cell (World.block_lt_of_cell? w _ hx199_0)).trans hx199_0
         replace hx199_1 := (HB.out.cell (World.block_lt_of_cell? w _ hx199_1)).trans hx199_1
         replace hx199_2 := (HB.out.cell (World.block_lt_of_cell? w _ hx199_2)).trans hx199_2
         replace p199 := eq_true p199
         replace q199 := eq_true q199
         go_wp2_with (first | ((with_reducible refine gate_dst (N := 7) rfl ?_); refine box_e 7 #[.int .i64 0, .int .i64 0, .int .u8 0] 33 ?_; intro gb200 hg w12 hbox hb; have BK200 := Aside0.mk hbox; have GW200 := bg_ HB hg; have GE200 := bg_ HB hg; have NB197_200 := bn_ BK197 hg; have NB200_197 := bm_ BK197 hg; replace BK197 := bb_ BK197 hb; replace HB := bs_ HB hb; clear hb hbox hg; have hnb13 := NB200_197.out; have hnc13 := NB197_200.out; obtain ⟨hcz14_0, hcz14_1, hcz14_2, hfz14_0, hfz14_1, hfz14_2⟩ := c3_ BK200; obtain ⟨hcz15_0, hcz15_1, hcz15_2, hfz15_0, hfz15_1, hfz15_2⟩ := c3_ BK197))
         refine bodyPost_ret (results_ct rfl _ _ gb197 33 #[.int .i64 ((rd_T33 l0 x14_1).f0), .int .i64 ((rd_T33 l0 x14_1).f1), .int .u8 ((rd_T33 l0 x14_1).f2)] (0, 0) _ rfl (bp_ BK197) Try.underlying33 rfl (by kernel_rfl)) rfl ?_
         exact ⟨by first | rfl | (simp [errW_none, errW_some] <;> rfl) | (simp [*, errW_none, errW_some] <;> rfl), bh_ HB⟩
        ·rw [if_neg c11] at H
         have c11b0 : decide (a1 < (wrap64 (((rd_T33 l0 x14_1).f0) + ((rd_T33 l0 x14_1).f1)))) = false := decide_eq_false c11
         clear c11
         have H' := Aside0.mk H
         clear H
         have p199 : 0 ≤ (x14_1 : Int) := of_decide_eq_true (by first | (with_reducible assumption) | assumption)
         have q199 : x14_1 < (l0.length : Int) := of_decide_eq_true (by first | (with_reducible assumption) | assumption)
         obtain ⟨ad199, e199, hx199_0, hx199_1, hx199_2⟩ := at_T33 HR0.out x14_1 p199 q199
         cases e199
         replace hx199_0 := (HB.out.cell (World.block_lt_of_cell? w _ hx199_0)).trans hx199_0
         replace hx199_1 := (HB.out.cell (World.block_lt_of_cell? w _ hx199_1)).trans hx199_1
         replace hx199_2 := (HB.out.cell (World.block_lt_of_cell? w _ hx199_2)).trans hx199_2
         replace p199 := eq_true p199
         replace q199 := eq_true q199
         go_wp2_with (first | ((with_reducible refine gate_dst (N := 7) rfl ?_); refine box_e 7 #[.int .i64 0, .int .i64 0, .int .u8 0] 33 ?_; intro gb200 hg w16 hbox hb; have BK200 := Aside0.mk hbox; have GW200 := bg_ HB hg; have GE200 := bg_ HB hg; have NB197_200 := bn_ BK197 hg; have NB200_197 := bm_ BK197 hg; replace BK197 := bb_ BK197 hb; replace HB := bs_ HB hb; clear hb hbox hg; have hnb17 := NB200_197.out; have hnc17 := NB197_200.out; obtain ⟨hcz18_0, hcz18_1, hcz18_2, hfz18_0, hfz18_1, hfz18_2⟩ := c3_ BK200))
         go_roundg k1
         case measure => have := HK1.out; omega
         case rel => exact ⟨(wrap64 (x14_1 + 1)), (x198000_1), (x198001_1), (x198002_1), (by first | rfl | (simp; done) | (simp [*]; done)), H', ⟨by have := HK1.out; omega⟩, ⟨by (with_reducible repeat (first | refine blk_drewN ?_ _ | refine blk_drew ?_ | refine blk_alloc ?_ _)); refine blk_far ?_ NB197_200.out _; (with_reducible repeat (first | refine blk_drewN ?_ _ | refine blk_drew ?_ | refine blk_alloc ?_ _)); refine blk_far ?_ NB197_200.out _; (with_reducible repeat (first | refine blk_drewN ?_ _ | refine blk_drew ?_ | refine blk_alloc ?_ _)); refine blk_far ?_ NB197_200.out _; (with_reducible repeat (first | refine blk_drewN ?_ _ | refine blk_drew ?_ | refine blk_alloc ?_ _)); exact BK197.out⟩, ⟨bh_ HB⟩⟩
       ·rw [if_neg c10] at H
        have c10b0 : decide (((rd_T33 l0 x14_1).f0) ≤ a1) = false := decide_eq_false c10
        clear c10
        have H' := Aside0.mk H
        clear H
        have p199 : 0 ≤ (x14_1 : Int) := of_decide_eq_true (by first | (with_reducible assumption) | assumption)
        have q199 : x14_1 < (l0.length : Int) := of_decide_eq_true (by first | (with_reducible assumption) | assumption)
        obtain ⟨ad199, e199, hx199_0, hx199_1, hx199_2⟩ := at_T33 HR0.out x14_1 p199 q199
        cases e199
        replace hx199_0 := (HB.out.cell (World.block_lt_of_cell? w _ hx199_0)).trans hx199_0
        replace hx199_1 := (HB.out.cell (World.block_lt_of_cell? w _ hx199_1)).trans hx199_1
        replace hx199_2 := (HB.out.cell (World.block_lt_of_cell? w _ hx199_2)).trans hx199_2
        replace p199 := eq_true p199
        replace q199 := eq_true q199
        go_wp2_with (first | ((with_reducible refine gate_dst (N := 7) rfl ?_); refine box_e 7 #[.int .i64 0, .int .i64 0, .int .u8 0] 33 ?_; intro gb200 hg w19 hbox hb; have BK200 := Aside0.mk hbox; have GW200 := bg_ HB hg; have GE200 := bg_ HB hg; have NB197_200 := bn_ BK197 hg; have NB200_197 := bm_ BK197 hg; replace BK197 := bb_ BK197 hb; replace HB := bs_ HB hb; clear hb hbox hg; have hnb20 := NB200_197.out; have hnc20 := NB197_200.out; obtain ⟨hcz21_0, hcz21_1, hcz21_2, hfz21_0, hfz21_1, hfz21_2⟩ := c3_ BK200))
        go_roundg k1
        case measure => have := HK1.out; omega
        case rel => exact ⟨(wrap64 (x14_1 + 1)), (x198000_1), (x198001_1), (x198002_1), (by first | rfl | (simp; done) | (simp [*]; done)), H', ⟨by have := HK1.out; omega⟩, ⟨by (with_reducible repeat (first | refine blk_drewN ?_ _ | refine blk_drew ?_ | refine blk_alloc ?_ _)); refine blk_far ?_ NB197_200.out _; (with_reducible repeat (first | refine blk_drewN ?_ _ | refine blk_drew ?_ | refine blk_alloc ?_ _)); refine blk_far ?_ NB197_200.out _; (with_reducible repeat (first | refine blk_drewN ?_ _ | refine blk_drew ?_ | refine blk_alloc ?_ _)); refine blk_far ?_ NB197_200.out _; (with_reducible repeat (first | refine blk_drewN ?_ _ | refine blk_drew ?_ | refine blk_alloc ?_ _)); exact BK197.out⟩, ⟨bh_ HB⟩⟩
      ·rw [if_neg c9] at H
       exact absurd H (by simp)
     ·rw [if_neg c8] at H
      exact absurd H (by simp)
    ·rw [if_neg c7] at H
     have c7b0 : decide (x14_1 < (l0.length : Int)) = false := decide_eq_false c7
     clear c7
     simp only [Option.some.injEq, Prod.mk.injEq] at H
     obtain ⟨rfl, rfl, rfl, rfl⟩ := H
     obtain ⟨hcz22_0, hcz22_1, hcz22_2, hfz22_0, hfz22_1, hfz22_2⟩ := c3_ BK197
     go_wp2
     refine bodyPost_ret (results_ct rfl _ _ gb197 33 #[.int .i64 0, .int .i64 0, .int .u8 0] (0, 0) _ rfl (bp_ BK197) Try.underlying33 rfl (by kernel_rfl)) rfl ?_
     exact ⟨by first | rfl | (simp [errW_none, errW_some] <;> rfl) | (simp [*, errW_none, errW_some] <;> rfl), bh_ HB⟩
 ·replace c4 := Bool.eq_false_iff.mpr c4
  subst c4
  have H1 : (some (0, 0, 0, false)) = some (r1, r2, r3, r4) := by rw [if_neg (show ¬ (false = true) by decide)] at H; exact H
  clear H
  have H := H1
  clear H1
  simp only [Option.some.injEq, Prod.mk.injEq] at H
  obtain ⟨rfl, rfl, rfl, rfl⟩ := H
  go_enter Try.func20, Try.ntmps20
  go_wp2_with (first | ((with_reducible refine gate_dst (N := 4) rfl ?_); refine box_e 4 #[.int .i64 0, .int .i64 0, .int .u8 0] 33 ?_; intro gb197 hg w23 hbox hb; have BK197 := Aside0.mk hbox; have GW197 := bg_ HB hg; have GE197 := bg_ HB hg; replace HB := bs_ HB hb; clear hb hbox hg) | ((with_reducible refine gate_callee (f := 45) rfl ?_); refine gl_ (some 9) rfl rfl Try.func45 (by kernel_rfl) rfl #[.slice A0 l0.length c0] rfl ?_; (with_reducible refine (region_May.calls k _ _ l0 false _ ?side1 ?side2 A3.out).mono ?_); (case side1 => exact cb_ HR0 HB); (case side2 => exact HC0.out); rintro e w24 ⟨rfl, hb⟩; refine ⟨_, rfl, ?_⟩; replace BK197 := bb_ BK197 hb; replace HB := bs_ HB hb; (try clear hb); obtain ⟨hcz25_0, hcz25_1, hcz25_2, hfz25_0, hfz25_1, hfz25_2⟩ := c3_ BK197))
  refine bodyPost_ret (results_ct rfl _ _ gb197 33 #[.int .i64 0, .int .i64 0, .int .u8 0] (0, 0) _ rfl (bp_ BK197) Try.underlying33 rfl (by kernel_rfl)) rfl ?_
  exact ⟨by first | rfl | (simp [errW_none, errW_some] <;> rfl) | (simp [*, errW_none, errW_some] <;> rfl), bh_ HB⟩

end Go.Proofs.Ytnoilinjlelpaaa.P
