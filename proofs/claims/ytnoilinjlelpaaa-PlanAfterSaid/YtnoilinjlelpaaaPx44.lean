/- Laid by a program of this session's own (wip/wprint.py, over the kit's print.py): functions of the given program as plain Lean functions, and that the program's calls come to their answers. -/
import Derived.Test.YtnoilinjlelpaaaPx0
import Derived.Test.YtnoilinjlelpaaaPx4
import Derived.Test.YtnoilinjlelpaaaPx43
namespace Go.Proofs.Ytnoilinjlelpaaa.P
open Go.RowKit Go.Proofs.YtnoilinjlelpaaaW.PrintWords Go.Proofs.YtnoilinjlelpaaaW.PrintLast Go.Proofs.YtnoilinjlelpaaaW.PrintMore
attribute [local go_sem] max2_int min2_int max_two min_two max_three min_three max_four min_four   -- for this text's walks alone
set_option linter.unusedVariables false
set_option linter.unusedSimpArgs false

/-! ### region_Count: function 31 -/
def region_Count.l0 : Nat → List Int → Int → List (S33) → Int → Int → Option (Int)
 | 0, _, _, _, _, _ => none
 | k + 1, x1, x5, x11, x12, x13 => if x13 < x12 then (if 0 ≤ x13 then (if x13 < (x11.length : Int) then (if (x1.length : Int) = 0 then (region_Count.l0 k x1 (wrap64 (x5 + ((rd_T33 x11 x13).f1))) x11 x12 (wrap64 (x13 + 1))) else ((slices_Contains_byte_byte.f k x1 ((rd_T33 x11 x13).f2)).bind fun t705 => (if t705 = true then (region_Count.l0 k x1 (wrap64 (x5 + ((rd_T33 x11 x13).f1))) x11 x12 (wrap64 (x13 + 1))) else (region_Count.l0 k x1 x5 x11 x12 (wrap64 (x13 + 1)))))) else (none)) else (none)) else (some x5)
def region_Count.f (k : Nat) (l0 : List (S33)) (l1 : List Int) : Option (Int) := (region_May.f k l0).bind fun t702 => (if t702 = true then (region_Count.l0 k l1 0 l0 (l0.length : Int) 0) else (some 0))
theorem region_Count.mono_l : ∀ k, (∀ y0 y1 y2 y3 y4, LeO (region_Count.l0 k y0 y1 y2 y3 y4) (region_Count.l0 (k + 1) y0 y1 y2 y3 y4))
 | 0 => fun _ _ _ _ _ r h => by simp [region_Count.l0] at h
 | k + 1 => by
  have ih0 := region_Count.mono_l k
  ·intro y0 y1 y2 y3 y4
   unfold region_Count.l0
   repeat' first
   | (with_reducible exact ih0 _ _ _ _ _)
   | (with_reducible exact region_May.mono _ _)
   | (with_reducible exact slices_Contains_byte_byte.mono _ _ _)
   | (with_reducible exact LeO.refl _)
   | (with_reducible exact LeO.none _)
   | (with_reducible refine LeO.ite ?_ ?_)
   | (with_reducible refine LeO.bind ?_ (fun _ => ?_))
   | exact ih0 _ _ _ _ _
   | exact region_May.mono _ _
   | exact slices_Contains_byte_byte.mono _ _ _
   | exact LeO.none _
   | refine LeO.ite ?_ ?_
   | refine LeO.bind ?_ (fun _ => ?_)
theorem region_Count.mono : ∀ a0 a1 k, LeO (region_Count.f k a0 a1) (region_Count.f (k + 1) a0 a1) := by
 intro a0 a1 k
 have ih0 := region_Count.mono_l k
 unfold region_Count.f
 repeat' first
   | (with_reducible exact ih0 _ _ _ _ _)
   | (with_reducible exact region_May.mono _ _)
   | (with_reducible exact slices_Contains_byte_byte.mono _ _ _)
   | (with_reducible exact LeO.refl _)
   | (with_reducible exact LeO.none _)
   | (with_reducible refine LeO.ite ?_ ?_)
   | (with_reducible refine LeO.bind ?_ (fun _ => ?_))
   | exact ih0 _ _ _ _ _
   | exact region_May.mono _ _
   | exact slices_Contains_byte_byte.mono _ _ _
   | exact LeO.none _
   | refine LeO.ite ?_ ?_
   | refine LeO.bind ?_ (fun _ => ?_)
set_option maxHeartbeats 8000000 in
set_option maxRecDepth 100000 in
theorem region_Count.calls (k : Nat) (A0 : Option Addr) (c0 : Nat) (l0 : List (S33)) (A1 : Option Addr) (c1 : Nat) (l1 : List Int) (r : Int) (w : World) (hr0 : Kd.C k33 w A0 l0.length l0) (hc0 : l0.length ≤ c0) (hr1 : Kd.C (Kd.int .u8) w A1 l1.length l1) (hc1 : l1.length ≤ c1) (h : region_Count.f k l0 l1 = some r) :
  Calls Try.prog 31 #[.slice A0 l0.length c0, .slice A1 l1.length c1] w fun e w' => e = .returned (.int .i64 r) ∧ Below w.heap.size w w' := by
 have hu33 := Try.underlying33
 have HR0 := Aside0.mk hr0
 have HC0 := Aside0.mk hc0
 clear hr0 hc0
 have HR1 := Aside0.mk hr1
 have HC1 := Aside0.mk hc1
 clear hr1 hc1
 have HB := Aside0.mk (Below.refl w.heap.size w)
 have H : ((region_May.f k l0).bind fun t702 => (if t702 = true then (region_Count.l0 k l1 0 l0 (l0.length : Int) 0) else (some 0))) = some r := h
 clear h
 replace H := Option.bind_eq_some_iff.mp H
 obtain ⟨t702, A30, H⟩ := H
 replace H : (if t702 = true then (region_Count.l0 k l1 0 l0 (l0.length : Int) 0) else (some 0)) = some r := H
 have A3 := Aside0.mk A30
 clear A30
 by_cases c4 : t702 = true
 ·subst c4
  have H1 : (region_Count.l0 k l1 0 l0 (l0.length : Int) 0) = some r := by rw [if_pos rfl] at H; exact H
  clear H
  have H := H1
  clear H1
  have H' := Aside0.mk H
  clear H
  go_enter Try.func31, Try.ntmps31
  go_wp2_with (first | ((with_reducible refine gate_callee (f := 45) rfl ?_); refine gl_ (some 9) rfl rfl Try.func45 (by kernel_rfl) rfl #[.slice A0 l0.length c0] rfl ?_; (with_reducible refine (region_May.calls k _ _ l0 true _ ?side1 ?side2 A3.out).mono ?_); (case side1 => repeat (first | exact HR0.out | (with_reducible refine Kd.C_alloc ?_ _) | (with_reducible refine Kd.C_drewN ?_ _) | (with_reducible refine Kd.C_drew ?_))); (case side2 => exact HC0.out); rintro e w5 ⟨rfl, hb⟩; refine ⟨_, rfl, ?_⟩; replace HB := bs_ HB hb; (try clear hb)))
  go_loopg [5, 13] k (fun kq v5 v13 w' => ∃ (x5_1 : Int) (x13_1 : Int), v5 = .int .i64 x5_1 ∧ v13 = .int .i64 x13_1 ∧ Aside0 (region_Count.l0 kq l1 x5_1 l0 (l0.length : Int) x13_1 = some r) ∧ Aside0 (kq ≤ k) ∧ Aside0 (Below w.heap.size w w'))
  case atStart => exact ⟨(0), (0), (by first | rfl | (simp; done) | (simp [*]; done)), (by first | rfl | (simp; done) | (simp [*]; done)), H', ⟨Nat.le_refl _⟩, ⟨bh_ HB⟩⟩
  case round =>
   clear H'
   try clear c1
   try clear p2
   try clear c3
   try clear c4
   obtain ⟨x5_1, x13_1, rfl, rfl, HA, HK1, HB⟩ := hrel
   cases gk with
   | zero => exact absurd HA.out (by simp [region_Count.l0])
   | succ k1 =>
    have H := HA.out
    clear HA
    simp only [region_Count.l0] at H
    by_cases c6 : x13_1 < (l0.length : Int)
    ·rw [if_pos c6] at H
     have c6b0 : decide (x13_1 < (l0.length : Int)) = true := decide_eq_true c6
     clear c6
     by_cases c7 : 0 ≤ x13_1
     ·rw [if_pos c7] at H
      have c7b0 : decide (0 ≤ x13_1) = true := decide_eq_true c7
      clear c7
      by_cases c8 : x13_1 < (l0.length : Int)
      ·rw [if_pos c8] at H
       have c8b0 : decide (x13_1 < (l0.length : Int)) = true := decide_eq_true c8
       clear c8
       by_cases c9 : (l1.length : Int) = 0
       ·rw [if_pos c9] at H
        have c9b0 : ((l1.length : Int) == 0) = true := beq_iff_eq.mpr c9
        have c9b1 : ((l1.length : Int) != 0) = false := bne_eq_false_iff_eq.mpr c9
        clear c9
        have H' := Aside0.mk H
        clear H
        have p703 : 0 ≤ (x13_1 : Int) := of_decide_eq_true (by first | (with_reducible assumption) | assumption)
        have q703 : x13_1 < (l0.length : Int) := of_decide_eq_true (by first | (with_reducible assumption) | assumption)
        obtain ⟨ad703, e703, hx703_0, hx703_1, hx703_2⟩ := at_T33 HR0.out x13_1 p703 q703
        cases e703
        replace hx703_0 := (HB.out.cell (World.block_lt_of_cell? w _ hx703_0)).trans hx703_0
        replace hx703_1 := (HB.out.cell (World.block_lt_of_cell? w _ hx703_1)).trans hx703_1
        replace hx703_2 := (HB.out.cell (World.block_lt_of_cell? w _ hx703_2)).trans hx703_2
        replace p703 := eq_true p703
        replace q703 := eq_true q703
        go_wp2_with (first | ((with_reducible refine gate_dst (N := 7) rfl ?_); refine box_e 7 #[.int .i64 0, .int .i64 0, .int .u8 0] 33 ?_; intro gb704 hg w10 hbox hb; have BK704 := Aside0.mk hbox; have GW704 := bg_ HB hg; have GE704 := bg_ HB hg; replace HB := bs_ HB hb; clear hb hbox hg; obtain ⟨hcz11_0, hcz11_1, hcz11_2, hfz11_0, hfz11_1, hfz11_2⟩ := c3_ BK704))
        go_roundg k1
        case measure => have := HK1.out; omega
        case rel => exact ⟨(wrap64 (x5_1 + ((rd_T33 l0 x13_1).f1))), (wrap64 (x13_1 + 1)), (by first | rfl | (simp; done) | (simp [*]; done)), (by first | rfl | (simp; done) | (simp [*]; done)), H', ⟨by have := HK1.out; omega⟩, ⟨bh_ HB⟩⟩
       ·rw [if_neg c9] at H
        have c9b0 : ((l1.length : Int) == 0) = false := beq_eq_false_iff_ne.mpr c9
        have c9b1 : ((l1.length : Int) != 0) = true := bne_iff_ne.mpr c9
        have c9b2 : ¬ (l1 = []) := fun h_ => c9 (by rw [h_]; rfl)
        replace H := Option.bind_eq_some_iff.mp H
        obtain ⟨t705, A120, H⟩ := H
        replace H : (if t705 = true then (region_Count.l0 k1 l1 (wrap64 (x5_1 + ((rd_T33 l0 x13_1).f1))) l0 (l0.length : Int) (wrap64 (x13_1 + 1))) else (region_Count.l0 k1 l1 x5_1 l0 (l0.length : Int) (wrap64 (x13_1 + 1)))) = some r := H
        have A12 := Aside0.mk A120
        clear A120
        by_cases c13 : t705 = true
        ·subst c13
         have H1 : (region_Count.l0 k1 l1 (wrap64 (x5_1 + ((rd_T33 l0 x13_1).f1))) l0 (l0.length : Int) (wrap64 (x13_1 + 1))) = some r := by rw [if_pos rfl] at H; exact H
         clear H
         have H := H1
         clear H1
         have H' := Aside0.mk H
         clear H
         have p703 : 0 ≤ (x13_1 : Int) := of_decide_eq_true (by first | (with_reducible assumption) | assumption)
         have q703 : x13_1 < (l0.length : Int) := of_decide_eq_true (by first | (with_reducible assumption) | assumption)
         obtain ⟨ad703, e703, hx703_0, hx703_1, hx703_2⟩ := at_T33 HR0.out x13_1 p703 q703
         cases e703
         replace hx703_0 := (HB.out.cell (World.block_lt_of_cell? w _ hx703_0)).trans hx703_0
         replace hx703_1 := (HB.out.cell (World.block_lt_of_cell? w _ hx703_1)).trans hx703_1
         replace hx703_2 := (HB.out.cell (World.block_lt_of_cell? w _ hx703_2)).trans hx703_2
         replace p703 := eq_true p703
         replace q703 := eq_true q703
         go_wp2_with (first | ((with_reducible refine gate_dst (N := 7) rfl ?_); refine box_e 7 #[.int .i64 0, .int .i64 0, .int .u8 0] 33 ?_; intro gb704 hg w14 hbox hb; have BK704 := Aside0.mk hbox; have GW704 := bg_ HB hg; have GE704 := bg_ HB hg; replace HB := bs_ HB hb; clear hb hbox hg; obtain ⟨hcz15_0, hcz15_1, hcz15_2, hfz15_0, hfz15_1, hfz15_2⟩ := c3_ BK704) | (go_at_call 53; (with_reducible refine (slices_Contains_byte_byte.calls k1 _ _ l1 ((rd_T33 l0 x13_1).f2) true _ ?side1 ?side2 A12.out).mono ?_); (case side1 => exact Kd.C_below HR1.out (bh_ HB)); (case side2 => exact HC1.out); rintro e w' ⟨rfl, ⟨nd, rfl⟩⟩))
         go_roundg k1
         case measure => have := HK1.out; omega
         case rel => exact ⟨(wrap64 (x5_1 + ((rd_T33 l0 x13_1).f1))), (wrap64 (x13_1 + 1)), (by first | rfl | (simp; done) | (simp [*]; done)), (by first | rfl | (simp; done) | (simp [*]; done)), H', ⟨by have := HK1.out; omega⟩, ⟨bh_ HB⟩⟩
        ·replace c13 := Bool.eq_false_iff.mpr c13
         subst c13
         have H1 : (region_Count.l0 k1 l1 x5_1 l0 (l0.length : Int) (wrap64 (x13_1 + 1))) = some r := by rw [if_neg (show ¬ (false = true) by decide)] at H; exact H
         clear H
         have H := H1
         clear H1
         have H' := Aside0.mk H
         clear H
         have p703 : 0 ≤ (x13_1 : Int) := of_decide_eq_true (by first | (with_reducible assumption) | assumption)
         have q703 : x13_1 < (l0.length : Int) := of_decide_eq_true (by first | (with_reducible assumption) | assumption)
         obtain ⟨ad703, e703, hx703_0, hx703_1, hx703_2⟩ := at_T33 HR0.out x13_1 p703 q703
         cases e703
         replace hx703_0 := (HB.out.cell (World.block_lt_of_cell? w _ hx703_0)).trans hx703_0
         replace hx703_1 := (HB.out.cell (World.block_lt_of_cell? w _ hx703_1)).trans hx703_1
         replace hx703_2 := (HB.out.cell (World.block_lt_of_cell? w _ hx703_2)).trans hx703_2
         replace p703 := eq_true p703
         replace q703 := eq_true q703
         go_wp2_with (first | ((with_reducible refine gate_dst (N := 7) rfl ?_); refine box_e 7 #[.int .i64 0, .int .i64 0, .int .u8 0] 33 ?_; intro gb704 hg w16 hbox hb; have BK704 := Aside0.mk hbox; have GW704 := bg_ HB hg; have GE704 := bg_ HB hg; replace HB := bs_ HB hb; clear hb hbox hg; obtain ⟨hcz17_0, hcz17_1, hcz17_2, hfz17_0, hfz17_1, hfz17_2⟩ := c3_ BK704) | (go_at_call 53; (with_reducible refine (slices_Contains_byte_byte.calls k1 _ _ l1 ((rd_T33 l0 x13_1).f2) false _ ?side1 ?side2 A12.out).mono ?_); (case side1 => exact Kd.C_below HR1.out (bh_ HB)); (case side2 => exact HC1.out); rintro e w' ⟨rfl, ⟨nd, rfl⟩⟩))
         go_roundg k1
         case measure => have := HK1.out; omega
         case rel => exact ⟨(x5_1), (wrap64 (x13_1 + 1)), (by first | rfl | (simp; done) | (simp [*]; done)), (by first | rfl | (simp; done) | (simp [*]; done)), H', ⟨by have := HK1.out; omega⟩, ⟨bh_ HB⟩⟩
      ·rw [if_neg c8] at H
       exact absurd H (by simp)
     ·rw [if_neg c7] at H
      exact absurd H (by simp)
    ·rw [if_neg c6] at H
     have c6b0 : decide (x13_1 < (l0.length : Int)) = false := decide_eq_false c6
     clear c6
     obtain rfl := Option.some.inj H
     go_wp2
     go_ret
     exact ⟨by first | rfl | (simp [errW_none, errW_some] <;> rfl) | (simp [*, errW_none, errW_some] <;> rfl), bh_ HB⟩
 ·replace c4 := Bool.eq_false_iff.mpr c4
  subst c4
  have H1 : (some 0) = some r := by rw [if_neg (show ¬ (false = true) by decide)] at H; exact H
  clear H
  have H := H1
  clear H1
  obtain rfl := Option.some.inj H
  go_enter Try.func31, Try.ntmps31
  go_wp2_with (first | ((with_reducible refine gate_callee (f := 45) rfl ?_); refine gl_ (some 9) rfl rfl Try.func45 (by kernel_rfl) rfl #[.slice A0 l0.length c0] rfl ?_; (with_reducible refine (region_May.calls k _ _ l0 false _ ?side1 ?side2 A3.out).mono ?_); (case side1 => repeat (first | exact HR0.out | (with_reducible refine Kd.C_alloc ?_ _) | (with_reducible refine Kd.C_drewN ?_ _) | (with_reducible refine Kd.C_drew ?_))); (case side2 => exact HC0.out); rintro e w18 ⟨rfl, hb⟩; refine ⟨_, rfl, ?_⟩; replace HB := bs_ HB hb; (try clear hb)))
  go_ret
  exact ⟨by first | rfl | (simp [errW_none, errW_some] <;> rfl) | (simp [*, errW_none, errW_some] <;> rfl), bh_ HB⟩

end Go.Proofs.Ytnoilinjlelpaaa.P
