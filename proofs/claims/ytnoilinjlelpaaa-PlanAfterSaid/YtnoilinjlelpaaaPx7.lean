/- Laid by a program of this session's own (wip/wprint.py, over the kit's print.py): functions of the given program as plain Lean functions, and that the program's calls come to their answers. -/
import Derived.Test.YtnoilinjlelpaaaPx0
import Derived.Test.YtnoilinjlelpaaaPx4
import Derived.Test.YtnoilinjlelpaaaPx5
namespace Go.Proofs.Ytnoilinjlelpaaa.P
open Go.RowKit Go.Proofs.YtnoilinjlelpaaaW.PrintWords Go.Proofs.YtnoilinjlelpaaaW.PrintLast Go.Proofs.YtnoilinjlelpaaaW.PrintMore
attribute [local go_sem] max2_int min2_int max_two min_two max_three min_three max_four min_four   -- for this text's walks alone
set_option linter.unusedVariables false
set_option linter.unusedSimpArgs false

/-! ### plan_edge: function 51 -/
def plan_edge.f (k : Nat) (a0_0 : Int) (a0_1 : Int) (a0_2 : Bool) (a1_0 : Int) (a1_1 : Int) (a1_2 : Int) (l1_3 : List (S33)) : Option (Int) := if a0_2 = true then ((region_End.f k l1_3).bind fun t123 => (some t123)) else (some 0)
theorem plan_edge.mono : ∀ a0 a1 a2 a3 a4 a5 a6 k, LeO (plan_edge.f k a0 a1 a2 a3 a4 a5 a6) (plan_edge.f (k + 1) a0 a1 a2 a3 a4 a5 a6) := by
 intro a0 a1 a2 a3 a4 a5 a6 k
 unfold plan_edge.f
 repeat' first
   | (with_reducible exact region_End.mono _ _)
   | (with_reducible exact LeO.refl _)
   | (with_reducible exact LeO.none _)
   | (with_reducible refine LeO.ite ?_ ?_)
   | (with_reducible refine LeO.bind ?_ (fun _ => ?_))
   | exact region_End.mono _ _
   | exact LeO.none _
   | refine LeO.ite ?_ ?_
   | refine LeO.bind ?_ (fun _ => ?_)
set_option maxHeartbeats 8000000 in
set_option maxRecDepth 100000 in
theorem plan_edge.calls (k : Nat) (a0_0 : Int) (a0_1 : Int) (a0_2 : Bool) (a1_0 : Int) (a1_1 : Int) (a1_2 : Int) (A1_3 : Option Addr) (c1_3 : Nat) (l1_3 : List (S33)) (r : Int) (w : World) (hr1_3 : Kd.C k33 w A1_3 l1_3.length l1_3) (hc1_3 : l1_3.length ≤ c1_3) (h : plan_edge.f k a0_0 a0_1 a0_2 a1_0 a1_1 a1_2 l1_3 = some r) :
  Calls Try.prog 51 #[.agg #[.int .i64 a0_0, .int .i64 a0_1, .bool a0_2], .agg #[.int .i64 a1_0, .int .i64 a1_1, .int .u8 a1_2, .slice A1_3 l1_3.length c1_3]] w fun e w' => e = .returned (.int .i64 r) ∧ Below w.heap.size w w' := by
 have hu23 := Try.underlying23
 have hu26 := Try.underlying26
 have HR1_3 := Aside0.mk hr1_3
 have HC1_3 := Aside0.mk hc1_3
 clear hr1_3 hc1_3
 have HB := Aside0.mk (Below.refl w.heap.size w)
 have H : (if a0_2 = true then ((region_End.f k l1_3).bind fun t123 => (some t123)) else (some 0)) = some r := h
 clear h
 by_cases c3 : a0_2 = true
 ·subst c3
  have H1 : ((region_End.f k l1_3).bind fun t123 => (some t123)) = some r := by rw [if_pos rfl] at H; exact H
  clear H
  have H := H1
  clear H1
  replace H := Option.bind_eq_some_iff.mp H
  obtain ⟨t123, A40, H⟩ := H
  replace H : (some t123) = some r := H
  have A4 := Aside0.mk A40
  clear A40
  obtain rfl := Option.some.inj H
  go_enter Try.func51, Try.ntmps51
  go_wp2_with (first | ((with_reducible refine gate_dst (N := 2) rfl ?_); refine box_e 2 #[.int .i64 a0_0, .int .i64 a0_1, .bool true] 23 ?_; intro gb121 hg w5 hbox hb; have BK121 := Aside0.mk hbox; have GW121 := bg_ HB hg; have GE121 := bg_ HB hg; replace HB := bs_ HB hb; clear hb hbox hg) | ((with_reducible refine gate_dst (N := 3) rfl ?_); refine box_e 3 #[.int .i64 a1_0, .int .i64 a1_1, .int .u8 a1_2, .slice A1_3 l1_3.length c1_3] 26 ?_; intro gb122 hg w6 hbox hb; have BK122 := Aside0.mk hbox; have GW122 := bg_ HB hg; have GE122 := bg_ HB hg; have NB121_122 := bn_ BK121 hg; have NB122_121 := bm_ BK121 hg; replace BK121 := bb_ BK121 hb; replace HB := bs_ HB hb; clear hb hbox hg; have hnb7 := NB121_122.out; have hnc7 := NB122_121.out; obtain ⟨hcz8_0, hcz8_1, hcz8_2, hfz8_0, hfz8_1, hfz8_2⟩ := c3_ BK121; obtain ⟨hcz9_0, hcz9_1, hcz9_2, hcz9_3, hfz9_0, hfz9_1, hfz9_2, hfz9_3⟩ := c4_ BK122) | ((with_reducible refine gate_callee (f := 19) rfl ?_); refine gl_ (some 9) rfl rfl Try.func19 (by kernel_rfl) rfl #[.slice A1_3 l1_3.length c1_3] rfl ?_; (with_reducible refine (region_End.calls k _ _ l1_3 t123 _ ?side1 ?side2 A4.out).mono ?_); (case side1 => exact cb_ HR1_3 HB); (case side2 => exact HC1_3.out); rintro e w10 ⟨rfl, hb⟩; refine ⟨_, rfl, ?_⟩; replace BK121 := bb_ BK121 hb; replace BK122 := bb_ BK122 hb; replace HB := bs_ HB hb; (try clear hb)))
  go_ret
  exact ⟨by first | rfl | (simp [errW_none, errW_some] <;> rfl) | (simp [*, errW_none, errW_some] <;> rfl), bh_ HB⟩
 ·replace c3 := Bool.eq_false_iff.mpr c3
  subst c3
  have H1 : (some 0) = some r := by rw [if_neg (show ¬ (false = true) by decide)] at H; exact H
  clear H
  have H := H1
  clear H1
  obtain rfl := Option.some.inj H
  go_enter Try.func51, Try.ntmps51
  go_wp2_with (first | ((with_reducible refine gate_dst (N := 2) rfl ?_); refine box_e 2 #[.int .i64 a0_0, .int .i64 a0_1, .bool false] 23 ?_; intro gb121 hg w11 hbox hb; have BK121 := Aside0.mk hbox; have GW121 := bg_ HB hg; have GE121 := bg_ HB hg; replace HB := bs_ HB hb; clear hb hbox hg) | ((with_reducible refine gate_dst (N := 3) rfl ?_); refine box_e 3 #[.int .i64 a1_0, .int .i64 a1_1, .int .u8 a1_2, .slice A1_3 l1_3.length c1_3] 26 ?_; intro gb122 hg w12 hbox hb; have BK122 := Aside0.mk hbox; have GW122 := bg_ HB hg; have GE122 := bg_ HB hg; have NB121_122 := bn_ BK121 hg; have NB122_121 := bm_ BK121 hg; replace BK121 := bb_ BK121 hb; replace HB := bs_ HB hb; clear hb hbox hg; have hnb13 := NB121_122.out; have hnc13 := NB122_121.out; obtain ⟨hcz14_0, hcz14_1, hcz14_2, hfz14_0, hfz14_1, hfz14_2⟩ := c3_ BK121))
  go_ret
  exact ⟨by first | rfl | (simp [errW_none, errW_some] <;> rfl) | (simp [*, errW_none, errW_some] <;> rfl), bh_ HB⟩

/-! ### region_First: function 23 -/
def region_First.l0 : Nat → Int → Int → List (S33) → Int → Int → Option (Int × Int × Int × Bool)
 | 0, _, _, _, _, _ => none
 | k + 1, x1, x2, x15, x16, x17 => if x17 < x16 then (if 0 ≤ x17 then (if x17 < (x15.length : Int) then (if ((rd_T33 x15 x17).f2) = x1 then (if (wrap64 (((rd_T33 x15 x17).f0) + ((rd_T33 x15 x17).f1))) > x2 then (some (mx ((rd_T33 x15 x17).f0) x2, wrap64 ((wrap64 (((rd_T33 x15 x17).f0) + ((rd_T33 x15 x17).f1))) - (mx ((rd_T33 x15 x17).f0) x2)), x1, true)) else (region_First.l0 k x1 x2 x15 x16 (wrap64 (x17 + 1)))) else (region_First.l0 k x1 x2 x15 x16 (wrap64 (x17 + 1)))) else (none)) else (none)) else (some (0, 0, 0, false))
def region_First.f (k : Nat) (l0 : List (S33)) (a1 : Int) (a2 : Int) : Option (Int × Int × Int × Bool) := (region_May.f k l0).bind fun t125 => (if t125 = true then (region_First.l0 k a1 a2 l0 (l0.length : Int) 0) else (some (0, 0, 0, false)))
theorem region_First.mono_l : ∀ k, (∀ y0 y1 y2 y3 y4, LeO (region_First.l0 k y0 y1 y2 y3 y4) (region_First.l0 (k + 1) y0 y1 y2 y3 y4))
 | 0 => fun _ _ _ _ _ r h => by simp [region_First.l0] at h
 | k + 1 => by
  have ih0 := region_First.mono_l k
  ·intro y0 y1 y2 y3 y4
   unfold region_First.l0
   repeat' first
   | (with_reducible exact ih0 _ _ _ _ _)
   | (with_reducible exact region_May.mono _ _)
   | (with_reducible exact LeO.refl _)
   | (with_reducible exact LeO.none _)
   | (with_reducible refine LeO.ite ?_ ?_)
   | (with_reducible refine LeO.bind ?_ (fun _ => ?_))
   | exact ih0 _ _ _ _ _
   | exact region_May.mono _ _
   | exact LeO.none _
   | refine LeO.ite ?_ ?_
   | refine LeO.bind ?_ (fun _ => ?_)
theorem region_First.mono : ∀ a0 a1 a2 k, LeO (region_First.f k a0 a1 a2) (region_First.f (k + 1) a0 a1 a2) := by
 intro a0 a1 a2 k
 have ih0 := region_First.mono_l k
 unfold region_First.f
 repeat' first
   | (with_reducible exact ih0 _ _ _ _ _)
   | (with_reducible exact region_May.mono _ _)
   | (with_reducible exact LeO.refl _)
   | (with_reducible exact LeO.none _)
   | (with_reducible refine LeO.ite ?_ ?_)
   | (with_reducible refine LeO.bind ?_ (fun _ => ?_))
   | exact ih0 _ _ _ _ _
   | exact region_May.mono _ _
   | exact LeO.none _
   | refine LeO.ite ?_ ?_
   | refine LeO.bind ?_ (fun _ => ?_)
set_option maxHeartbeats 8000000 in
set_option maxRecDepth 100000 in
theorem region_First.calls (k : Nat) (A0 : Option Addr) (c0 : Nat) (l0 : List (S33)) (a1 : Int) (a2 : Int) (r1 : Int) (r2 : Int) (r3 : Int) (r4 : Bool) (w : World) (hr0 : Kd.C k33 w A0 l0.length l0) (hc0 : l0.length ≤ c0) (h : region_First.f k l0 a1 a2 = some (r1, r2, r3, r4)) :
  Calls Try.prog 23 #[.slice A0 l0.length c0, .int .u8 a1, .int .i64 a2] w fun e w' => e = .returned (.tuple #[.agg #[.int .i64 r1, .int .i64 r2, .int .u8 r3], .bool r4]) ∧ Below w.heap.size w w' := by
 have hu33 := Try.underlying33
 have HR0 := Aside0.mk hr0
 have HC0 := Aside0.mk hc0
 clear hr0 hc0
 have HB := Aside0.mk (Below.refl w.heap.size w)
 have H : ((region_May.f k l0).bind fun t125 => (if t125 = true then (region_First.l0 k a1 a2 l0 (l0.length : Int) 0) else (some (0, 0, 0, false)))) = some (r1, r2, r3, r4) := h
 clear h
 replace H := Option.bind_eq_some_iff.mp H
 obtain ⟨t125, A40, H⟩ := H
 replace H : (if t125 = true then (region_First.l0 k a1 a2 l0 (l0.length : Int) 0) else (some (0, 0, 0, false))) = some (r1, r2, r3, r4) := H
 have A4 := Aside0.mk A40
 clear A40
 by_cases c5 : t125 = true
 ·subst c5
  have H1 : (region_First.l0 k a1 a2 l0 (l0.length : Int) 0) = some (r1, r2, r3, r4) := by rw [if_pos rfl] at H; exact H
  clear H
  have H := H1
  clear H1
  have H' := Aside0.mk H
  clear H
  go_enter Try.func23, Try.ntmps23
  go_wp2_with (first | ((with_reducible refine gate_dst (N := 6) rfl ?_); refine box_e 6 #[.int .i64 0, .int .i64 0, .int .u8 0] 33 ?_; intro gb124 hg w6 hbox hb; have BK124 := Aside0.mk hbox; have GW124 := bg_ HB hg; have GE124 := bg_ HB hg; replace HB := bs_ HB hb; clear hb hbox hg) | ((with_reducible refine gate_callee (f := 45) rfl ?_); refine gl_ (some 12) rfl rfl Try.func45 (by kernel_rfl) rfl #[.slice A0 l0.length c0] rfl ?_; (with_reducible refine (region_May.calls k _ _ l0 true _ ?side1 ?side2 A4.out).mono ?_); (case side1 => exact cb_ HR0 HB); (case side2 => exact HC0.out); rintro e w7 ⟨rfl, hb⟩; refine ⟨_, rfl, ?_⟩; replace BK124 := bb_ BK124 hb; replace HB := bs_ HB hb; (try clear hb)))
  go_loopg [17] k (fun kq v17 w' => ∃ (x17_1 : Int) (x125000_1 : Int) (x125001_1 : Int) (x125002_1 : Int), v17 = .int .i64 x17_1 ∧ Aside0 (region_First.l0 kq a1 a2 l0 (l0.length : Int) x17_1 = some (r1, r2, r3, r4)) ∧ Aside0 (kq ≤ k) ∧ Aside0 (w'.heap[gb124]? = some (.cells #[.int .i64 x125000_1, .int .i64 x125001_1, .int .u8 x125002_1] 33 (0, 0))) ∧ Aside0 (Below w.heap.size w w'))
  case atStart => exact ⟨(0), (0), (0), (0), (by first | rfl | (simp; done) | (simp [*]; done)), H', ⟨Nat.le_refl _⟩, ⟨bq_ BK124⟩, ⟨bh_ HB⟩⟩
  case round =>
   clear H'
   try clear c2
   try clear p2
   try clear c4
   try clear c5
   obtain ⟨x17_1, x125000_1, x125001_1, x125002_1, rfl, HA, HK1, BK124, HB⟩ := hrel
   cases gk with
   | zero => exact absurd HA.out (by simp [region_First.l0])
   | succ k1 =>
    have H := HA.out
    clear HA
    simp only [region_First.l0] at H
    by_cases c8 : x17_1 < (l0.length : Int)
    ·rw [if_pos c8] at H
     have c8b0 : decide (x17_1 < (l0.length : Int)) = true := decide_eq_true c8
     clear c8
     by_cases c9 : 0 ≤ x17_1
     ·rw [if_pos c9] at H
      have c9b0 : decide (0 ≤ x17_1) = true := decide_eq_true c9
      clear c9
      by_cases c10 : x17_1 < (l0.length : Int)
      ·rw [if_pos c10] at H
       have c10b0 : decide (x17_1 < (l0.length : Int)) = true := decide_eq_true c10
       clear c10
       by_cases c11 : ((rd_T33 l0 x17_1).f2) = a1
       ·rw [if_pos c11] at H
        have c11b0 : (((rd_T33 l0 x17_1).f2) == a1) = true := beq_iff_eq.mpr c11
        have c11b1 : (((rd_T33 l0 x17_1).f2) != a1) = false := bne_eq_false_iff_eq.mpr c11
        clear c11
        by_cases c12 : (wrap64 (((rd_T33 l0 x17_1).f0) + ((rd_T33 l0 x17_1).f1))) > a2
        ·rw [if_pos c12] at H
         have c12b0 : decide (a2 < (wrap64 (((rd_T33 l0 x17_1).f0) + ((rd_T33 l0 x17_1).f1)))) = true := decide_eq_true c12
         clear c12
         obtain ⟨ji13, hji13⟩ : ∃ j_ : Int, (mx ((rd_T33 l0 x17_1).f0) a2) = j_ := ⟨_, rfl⟩
         replace H : (some (ji13, wrap64 ((wrap64 (((rd_T33 l0 x17_1).f0) + ((rd_T33 l0 x17_1).f1))) - (ji13)), a1, true)) = some (r1, r2, r3, r4) := by first | (rw [hji13] at H; exact H) | (simp only [hji13] at H ⊢; exact H)
         have hji13_ : (if ((rd_T33 l0 x17_1).f0) < a2 then a2 else ((rd_T33 l0 x17_1).f0)) = ji13 := hji13
         simp only [Option.some.injEq, Prod.mk.injEq] at H
         obtain ⟨rfl, rfl, rfl, rfl⟩ := H
         have p126 : 0 ≤ (x17_1 : Int) := of_decide_eq_true (by first | (with_reducible assumption) | assumption)
         have q126 : x17_1 < (l0.length : Int) := of_decide_eq_true (by first | (with_reducible assumption) | assumption)
         obtain ⟨ad126, e126, hx126_0, hx126_1, hx126_2⟩ := at_T33 HR0.out x17_1 p126 q126
         cases e126
         replace hx126_0 := (HB.out.cell (World.block_lt_of_cell? w _ hx126_0)).trans hx126_0
         replace hx126_1 := (HB.out.cell (World.block_lt_of_cell? w _ hx126_1)).trans hx126_1
         replace hx126_2 := (HB.out.cell (World.block_lt_of_cell? w _ hx126_2)).trans hx126_2
         replace p126 := eq_true p126
         replace q126 := eq_true q126
         go_wp2_with (first | ((with_reducible refine gate_dst (N := 9) rfl ?_); refine box_e 9 #[.int .i64 0, .int .i64 0, .int .u8 0] 33 ?_; intro gb127 hg w14 hbox hb; have BK127 := Aside0.mk hbox; have GW127 := bg_ HB hg; have GE127 := bg_ HB hg; have NB124_127 := bn_ BK124 hg; have NB127_124 := bm_ BK124 hg; replace BK124 := bb_ BK124 hb; replace HB := bs_ HB hb; clear hb hbox hg; have hnb15 := NB127_124.out; have hnc15 := NB124_127.out; obtain ⟨hcz16_0, hcz16_1, hcz16_2, hfz16_0, hfz16_1, hfz16_2⟩ := c3_ BK127; obtain ⟨hcz17_0, hcz17_1, hcz17_2, hfz17_0, hfz17_1, hfz17_2⟩ := c3_ BK124))
         refine bodyPost_ret (results_ct rfl _ _ gb124 33 #[.int .i64 ji13, .int .i64 (wrap64 ((wrap64 (((rd_T33 l0 x17_1).f0) + ((rd_T33 l0 x17_1).f1))) - (ji13))), .int .u8 a1] (0, 0) _ rfl (bp_ BK124) Try.underlying33 rfl (by kernel_rfl)) rfl ?_
         exact ⟨by first | rfl | (simp [errW_none, errW_some] <;> rfl) | (simp only [← hji13]; first | rfl | (simp [errW_none, errW_some] <;> rfl)) | (simp [*, errW_none, errW_some] <;> rfl), bh_ HB⟩
        ·rw [if_neg c12] at H
         have c12b0 : decide (a2 < (wrap64 (((rd_T33 l0 x17_1).f0) + ((rd_T33 l0 x17_1).f1)))) = false := decide_eq_false c12
         clear c12
         have H' := Aside0.mk H
         clear H
         have p126 : 0 ≤ (x17_1 : Int) := of_decide_eq_true (by first | (with_reducible assumption) | assumption)
         have q126 : x17_1 < (l0.length : Int) := of_decide_eq_true (by first | (with_reducible assumption) | assumption)
         obtain ⟨ad126, e126, hx126_0, hx126_1, hx126_2⟩ := at_T33 HR0.out x17_1 p126 q126
         cases e126
         replace hx126_0 := (HB.out.cell (World.block_lt_of_cell? w _ hx126_0)).trans hx126_0
         replace hx126_1 := (HB.out.cell (World.block_lt_of_cell? w _ hx126_1)).trans hx126_1
         replace hx126_2 := (HB.out.cell (World.block_lt_of_cell? w _ hx126_2)).trans hx126_2
         replace p126 := eq_true p126
         replace q126 := eq_true q126
         go_wp2_with (first | ((with_reducible refine gate_dst (N := 9) rfl ?_); refine box_e 9 #[.int .i64 0, .int .i64 0, .int .u8 0] 33 ?_; intro gb127 hg w18 hbox hb; have BK127 := Aside0.mk hbox; have GW127 := bg_ HB hg; have GE127 := bg_ HB hg; have NB124_127 := bn_ BK124 hg; have NB127_124 := bm_ BK124 hg; replace BK124 := bb_ BK124 hb; replace HB := bs_ HB hb; clear hb hbox hg; have hnb19 := NB127_124.out; have hnc19 := NB124_127.out; obtain ⟨hcz20_0, hcz20_1, hcz20_2, hfz20_0, hfz20_1, hfz20_2⟩ := c3_ BK127))
         go_roundg k1
         case measure => have := HK1.out; omega
         case rel => exact ⟨(wrap64 (x17_1 + 1)), (x125000_1), (x125001_1), (x125002_1), (by first | rfl | (simp; done) | (simp [*]; done)), H', ⟨by have := HK1.out; omega⟩, ⟨by (with_reducible repeat (first | refine blk_drewN ?_ _ | refine blk_drew ?_ | refine blk_alloc ?_ _)); refine blk_far ?_ NB124_127.out _; (with_reducible repeat (first | refine blk_drewN ?_ _ | refine blk_drew ?_ | refine blk_alloc ?_ _)); refine blk_far ?_ NB124_127.out _; (with_reducible repeat (first | refine blk_drewN ?_ _ | refine blk_drew ?_ | refine blk_alloc ?_ _)); refine blk_far ?_ NB124_127.out _; (with_reducible repeat (first | refine blk_drewN ?_ _ | refine blk_drew ?_ | refine blk_alloc ?_ _)); exact BK124.out⟩, ⟨bh_ HB⟩⟩
       ·rw [if_neg c11] at H
        have c11b0 : (((rd_T33 l0 x17_1).f2) == a1) = false := beq_eq_false_iff_ne.mpr c11
        have c11b1 : (((rd_T33 l0 x17_1).f2) != a1) = true := bne_iff_ne.mpr c11
        have H' := Aside0.mk H
        clear H
        have p126 : 0 ≤ (x17_1 : Int) := of_decide_eq_true (by first | (with_reducible assumption) | assumption)
        have q126 : x17_1 < (l0.length : Int) := of_decide_eq_true (by first | (with_reducible assumption) | assumption)
        obtain ⟨ad126, e126, hx126_0, hx126_1, hx126_2⟩ := at_T33 HR0.out x17_1 p126 q126
        cases e126
        replace hx126_0 := (HB.out.cell (World.block_lt_of_cell? w _ hx126_0)).trans hx126_0
        replace hx126_1 := (HB.out.cell (World.block_lt_of_cell? w _ hx126_1)).trans hx126_1
        replace hx126_2 := (HB.out.cell (World.block_lt_of_cell? w _ hx126_2)).trans hx126_2
        replace p126 := eq_true p126
        replace q126 := eq_true q126
        go_wp2_with (first | ((with_reducible refine gate_dst (N := 9) rfl ?_); refine box_e 9 #[.int .i64 0, .int .i64 0, .int .u8 0] 33 ?_; intro gb127 hg w21 hbox hb; have BK127 := Aside0.mk hbox; have GW127 := bg_ HB hg; have GE127 := bg_ HB hg; have NB124_127 := bn_ BK124 hg; have NB127_124 := bm_ BK124 hg; replace BK124 := bb_ BK124 hb; replace HB := bs_ HB hb; clear hb hbox hg; have hnb22 := NB127_124.out; have hnc22 := NB124_127.out; obtain ⟨hcz23_0, hcz23_1, hcz23_2, hfz23_0, hfz23_1, hfz23_2⟩ := c3_ BK127))
        go_roundg k1
        case measure => have := HK1.out; omega
        case rel => exact ⟨(wrap64 (x17_1 + 1)), (x125000_1), (x125001_1), (x125002_1), (by first | rfl | (simp; done) | (simp [*]; done)), H', ⟨by have := HK1.out; omega⟩, ⟨by (with_reducible repeat (first | refine blk_drewN ?_ _ | refine blk_drew ?_ | refine blk_alloc ?_ _)); refine blk_far ?_ NB124_127.out _; (with_reducible repeat (first | refine blk_drewN ?_ _ | refine blk_drew ?_ | refine blk_alloc ?_ _)); refine blk_far ?_ NB124_127.out _; (with_reducible repeat (first | refine blk_drewN ?_ _ | refine blk_drew ?_ | refine blk_alloc ?_ _)); refine blk_far ?_ NB124_127.out _; (with_reducible repeat (first | refine blk_drewN ?_ _ | refine blk_drew ?_ | refine blk_alloc ?_ _)); exact BK124.out⟩, ⟨bh_ HB⟩⟩
      ·rw [if_neg c10] at H
       exact absurd H (by simp)
     ·rw [if_neg c9] at H
      exact absurd H (by simp)
    ·rw [if_neg c8] at H
     have c8b0 : decide (x17_1 < (l0.length : Int)) = false := decide_eq_false c8
     clear c8
     simp only [Option.some.injEq, Prod.mk.injEq] at H
     obtain ⟨rfl, rfl, rfl, rfl⟩ := H
     obtain ⟨hcz24_0, hcz24_1, hcz24_2, hfz24_0, hfz24_1, hfz24_2⟩ := c3_ BK124
     go_wp2
     refine bodyPost_ret (results_ct rfl _ _ gb124 33 #[.int .i64 0, .int .i64 0, .int .u8 0] (0, 0) _ rfl (bp_ BK124) Try.underlying33 rfl (by kernel_rfl)) rfl ?_
     exact ⟨by first | rfl | (simp [errW_none, errW_some] <;> rfl) | (simp [*, errW_none, errW_some] <;> rfl), bh_ HB⟩
 ·replace c5 := Bool.eq_false_iff.mpr c5
  subst c5
  have H1 : (some (0, 0, 0, false)) = some (r1, r2, r3, r4) := by rw [if_neg (show ¬ (false = true) by decide)] at H; exact H
  clear H
  have H := H1
  clear H1
  simp only [Option.some.injEq, Prod.mk.injEq] at H
  obtain ⟨rfl, rfl, rfl, rfl⟩ := H
  go_enter Try.func23, Try.ntmps23
  go_wp2_with (first | ((with_reducible refine gate_dst (N := 6) rfl ?_); refine box_e 6 #[.int .i64 0, .int .i64 0, .int .u8 0] 33 ?_; intro gb124 hg w25 hbox hb; have BK124 := Aside0.mk hbox; have GW124 := bg_ HB hg; have GE124 := bg_ HB hg; replace HB := bs_ HB hb; clear hb hbox hg) | ((with_reducible refine gate_callee (f := 45) rfl ?_); refine gl_ (some 12) rfl rfl Try.func45 (by kernel_rfl) rfl #[.slice A0 l0.length c0] rfl ?_; (with_reducible refine (region_May.calls k _ _ l0 false _ ?side1 ?side2 A4.out).mono ?_); (case side1 => exact cb_ HR0 HB); (case side2 => exact HC0.out); rintro e w26 ⟨rfl, hb⟩; refine ⟨_, rfl, ?_⟩; replace BK124 := bb_ BK124 hb; replace HB := bs_ HB hb; (try clear hb); obtain ⟨hcz27_0, hcz27_1, hcz27_2, hfz27_0, hfz27_1, hfz27_2⟩ := c3_ BK124))
  refine bodyPost_ret (results_ct rfl _ _ gb124 33 #[.int .i64 0, .int .i64 0, .int .u8 0] (0, 0) _ rfl (bp_ BK124) Try.underlying33 rfl (by kernel_rfl)) rfl ?_
  exact ⟨by first | rfl | (simp [errW_none, errW_some] <;> rfl) | (simp [*, errW_none, errW_some] <;> rfl), bh_ HB⟩

-- none

end Go.Proofs.Ytnoilinjlelpaaa.P
