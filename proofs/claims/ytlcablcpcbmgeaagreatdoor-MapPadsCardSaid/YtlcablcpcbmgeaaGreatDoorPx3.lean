/- Laid by a program of this session's own (wip/wprint.py, over the kit's print.py): functions of the given program as plain Lean functions, and that the program's calls come to their answers. -/
import Derived.Test.YtlcablcpcbmgeaaGreatDoorPx0
import Derived.Test.YtlcablcpcbmgeaaGreatDoorPx2
namespace Go.Proofs.YtlcablcpcbmgeaaGreatDoor.P
open Go.RowKit Go.Proofs.YtlcablcpcbmgeaaGreatDoorW.PrintWords Go.Proofs.YtlcablcpcbmgeaaGreatDoorW.PrintLast Go.Proofs.YtlcablcpcbmgeaaGreatDoorW.PrintMore
attribute [local go_sem] max2_int min2_int max_two min_two max_three min_three max_four min_four   -- for this text's walks alone
set_option linter.unusedVariables false
set_option linter.unusedSimpArgs false

/-! ### region_May: function 35 -/
def region_May.l0 : Nat → List (S23) → Int → List (S23) → Int → Int → Option (Bool)
 | 0, _, _, _, _, _ => none
 | k + 1, x0, x3, x6, x7, x8 => if x8 < x7 then (if 0 ≤ x8 then (if x8 < (x6.length : Int) then (if ((rd_T23 x6 x8).f0) = x3 then (if ((rd_T23 x6 x8).f1) < 1 then (some false) else (if ((rd_T23 x6 x8).f1) > (wrap64 (1099511627776 - x3)) then (some false) else ((region_Is.f ((rd_T23 x6 x8).f2)).bind fun t103 => (if t103 = true then (if x8 > 0 then (if 0 ≤ (wrap64 (x8 - 1)) then (if (wrap64 (x8 - 1)) < (x0.length : Int) then (if ((rd_T23 x0 (wrap64 (x8 - 1))).f2) = ((rd_T23 x6 x8).f2) then (some false) else (region_May.l0 k x0 (wrap64 (x3 + ((rd_T23 x6 x8).f1))) x6 x7 (wrap64 (x8 + 1)))) else (none)) else (none)) else (region_May.l0 k x0 (wrap64 (x3 + ((rd_T23 x6 x8).f1))) x6 x7 (wrap64 (x8 + 1)))) else (some false))))) else (some false)) else (none)) else (none)) else (some true)
def region_May.f (k : Nat) (l0 : List (S23)) : Option (Bool) := region_May.l0 k l0 0 l0 (l0.length : Int) 0
theorem region_May.mono_l : ∀ k, (∀ y0 y1 y2 y3 y4, LeO (region_May.l0 k y0 y1 y2 y3 y4) (region_May.l0 (k + 1) y0 y1 y2 y3 y4))
 | 0 => fun _ _ _ _ _ r h => by simp [region_May.l0] at h
 | k + 1 => by
  have ih0 := region_May.mono_l k
  ·intro y0 y1 y2 y3 y4
   unfold region_May.l0
   repeat' first
   | (with_reducible exact ih0 _ _ _ _ _)
   | (with_reducible exact LeO.refl _)
   | (with_reducible exact LeO.none _)
   | (with_reducible refine LeO.ite ?_ ?_)
   | (with_reducible refine LeO.bind ?_ (fun _ => ?_))
   | exact ih0 _ _ _ _ _
   | exact LeO.none _
   | refine LeO.ite ?_ ?_
   | refine LeO.bind ?_ (fun _ => ?_)
theorem region_May.mono : ∀ a0 k, LeO (region_May.f k a0) (region_May.f (k + 1) a0) := by
 intro a0 k
 have ih0 := region_May.mono_l k
 unfold region_May.f
 repeat' first
   | (with_reducible exact ih0 _ _ _ _ _)
   | (with_reducible exact LeO.refl _)
   | (with_reducible exact LeO.none _)
   | (with_reducible refine LeO.ite ?_ ?_)
   | (with_reducible refine LeO.bind ?_ (fun _ => ?_))
   | exact ih0 _ _ _ _ _
   | exact LeO.none _
   | refine LeO.ite ?_ ?_
   | refine LeO.bind ?_ (fun _ => ?_)
set_option maxHeartbeats 8000000 in
set_option maxRecDepth 100000 in
theorem region_May.calls (k : Nat) (A0 : Option Addr) (c0 : Nat) (l0 : List (S23)) (r : Bool) (w : World) (hr0 : Kd.C k23 w A0 l0.length l0) (hc0 : l0.length ≤ c0) (h : region_May.f k l0 = some r) :
  Calls Tryz.prog 35 #[.slice A0 l0.length c0] w fun e w' => e = .returned (.bool r) ∧ Below w.heap.size w w' := by
 have hu23 := Tryz.underlying23
 have HR0 := Aside0.mk hr0
 have HC0 := Aside0.mk hc0
 clear hr0 hc0
 have HB := Aside0.mk (Below.refl w.heap.size w)
 have H : (region_May.l0 k l0 0 l0 (l0.length : Int) 0) = some r := h
 clear h
 have H' := Aside0.mk H
 clear H
 go_enter Tryz.func35, Tryz.ntmps35
 go_wp2
 repeat (go_quiet (fail); try go_wp2)
 go_loopg [3, 8] k (fun kq v3 v8 w' => ∃ (x3_1 : Int) (x8_1 : Int), v3 = .int .i64 x3_1 ∧ v8 = .int .i64 x8_1 ∧ Aside0 (region_May.l0 kq l0 x3_1 l0 (l0.length : Int) x8_1 = some r) ∧ Aside0 (kq ≤ k) ∧ Aside0 (Below w.heap.size w w'))
 case atStart => exact ⟨(0), (0), (by first | rfl | (simp; done) | (simp [*]; done)), (by first | rfl | (simp; done) | (simp [*]; done)), H', ⟨Nat.le_refl _⟩, ⟨bh_ HB⟩⟩
 case round =>
  clear H'
  obtain ⟨x3_1, x8_1, rfl, rfl, HA, HK1, HB⟩ := hrel
  cases gk with
  | zero => exact absurd HA.out (by simp [region_May.l0])
  | succ k1 =>
   have H := HA.out
   clear HA
   simp only [region_May.l0] at H
   by_cases c2 : x8_1 < (l0.length : Int)
   ·rw [if_pos c2] at H
    have c2b0 : decide (x8_1 < (l0.length : Int)) = true := decide_eq_true c2
    clear c2
    by_cases c3 : 0 ≤ x8_1
    ·rw [if_pos c3] at H
     have c3b0 : decide (0 ≤ x8_1) = true := decide_eq_true c3
     clear c3
     by_cases c4 : x8_1 < (l0.length : Int)
     ·rw [if_pos c4] at H
      have c4b0 : decide (x8_1 < (l0.length : Int)) = true := decide_eq_true c4
      clear c4
      by_cases c5 : ((rd_T23 l0 x8_1).f0) = x3_1
      ·rw [if_pos c5] at H
       have c5b0 : (((rd_T23 l0 x8_1).f0) == x3_1) = true := beq_iff_eq.mpr c5
       have c5b1 : (((rd_T23 l0 x8_1).f0) != x3_1) = false := bne_eq_false_iff_eq.mpr c5
       clear c5
       by_cases c6 : ((rd_T23 l0 x8_1).f1) < 1
       ·rw [if_pos c6] at H
        have c6b0 : decide (((rd_T23 l0 x8_1).f1) < 1) = true := decide_eq_true c6
        clear c6
        obtain rfl := Option.some.inj H
        have p101 : 0 ≤ (x8_1 : Int) := of_decide_eq_true (by first | (with_reducible assumption) | assumption)
        have q101 : x8_1 < (l0.length : Int) := of_decide_eq_true (by first | (with_reducible assumption) | assumption)
        obtain ⟨ad101, e101, hx101_0, hx101_1, hx101_2⟩ := at_T23 HR0.out x8_1 p101 q101
        cases e101
        replace hx101_0 := (HB.out.cell (World.block_lt_of_cell? w _ hx101_0)).trans hx101_0
        replace hx101_1 := (HB.out.cell (World.block_lt_of_cell? w _ hx101_1)).trans hx101_1
        replace hx101_2 := (HB.out.cell (World.block_lt_of_cell? w _ hx101_2)).trans hx101_2
        replace p101 := eq_true p101
        replace q101 := eq_true q101
        go_wp2_with (first | ((with_reducible refine gate_dst (N := 5) rfl ?_); refine box_e 5 #[.int .i64 0, .int .i64 0, .int .u8 0] 23 ?_; intro gb102 hg w7 hbox hb; have BK102 := Aside0.mk hbox; have GW102 := bg_ HB hg; have GE102 := bg_ HB hg; replace HB := bs_ HB hb; clear hb hbox hg; obtain ⟨hcz8_0, hcz8_1, hcz8_2, hfz8_0, hfz8_1, hfz8_2⟩ := c3_ BK102))
        repeat (go_quiet (first | ((with_reducible refine gate_dst (N := 5) rfl ?_); refine box_e 5 #[.int .i64 0, .int .i64 0, .int .u8 0] 23 ?_; intro gb102 hg w7 hbox hb; have BK102 := Aside0.mk hbox; have GW102 := bg_ HB hg; have GE102 := bg_ HB hg; replace HB := bs_ HB hb; clear hb hbox hg; obtain ⟨hcz8_0, hcz8_1, hcz8_2, hfz8_0, hfz8_1, hfz8_2⟩ := c3_ BK102)); try go_wp2_with (first | ((with_reducible refine gate_dst (N := 5) rfl ?_); refine box_e 5 #[.int .i64 0, .int .i64 0, .int .u8 0] 23 ?_; intro gb102 hg w7 hbox hb; have BK102 := Aside0.mk hbox; have GW102 := bg_ HB hg; have GE102 := bg_ HB hg; replace HB := bs_ HB hb; clear hb hbox hg; obtain ⟨hcz8_0, hcz8_1, hcz8_2, hfz8_0, hfz8_1, hfz8_2⟩ := c3_ BK102)))
        go_ret
        exact ⟨by first | rfl | (simp [errW_none, errW_some] <;> rfl) | (simp [*, errW_none, errW_some] <;> rfl), bh_ HB⟩
       ·rw [if_neg c6] at H
        have c6b0 : decide (((rd_T23 l0 x8_1).f1) < 1) = false := decide_eq_false c6
        clear c6
        by_cases c9 : ((rd_T23 l0 x8_1).f1) > (wrap64 (1099511627776 - x3_1))
        ·rw [if_pos c9] at H
         have c9b0 : decide ((wrap64 (1099511627776 - x3_1)) < ((rd_T23 l0 x8_1).f1)) = true := decide_eq_true c9
         clear c9
         obtain rfl := Option.some.inj H
         have p101 : 0 ≤ (x8_1 : Int) := of_decide_eq_true (by first | (with_reducible assumption) | assumption)
         have q101 : x8_1 < (l0.length : Int) := of_decide_eq_true (by first | (with_reducible assumption) | assumption)
         obtain ⟨ad101, e101, hx101_0, hx101_1, hx101_2⟩ := at_T23 HR0.out x8_1 p101 q101
         cases e101
         replace hx101_0 := (HB.out.cell (World.block_lt_of_cell? w _ hx101_0)).trans hx101_0
         replace hx101_1 := (HB.out.cell (World.block_lt_of_cell? w _ hx101_1)).trans hx101_1
         replace hx101_2 := (HB.out.cell (World.block_lt_of_cell? w _ hx101_2)).trans hx101_2
         replace p101 := eq_true p101
         replace q101 := eq_true q101
         go_wp2_with (first | ((with_reducible refine gate_dst (N := 5) rfl ?_); refine box_e 5 #[.int .i64 0, .int .i64 0, .int .u8 0] 23 ?_; intro gb102 hg w10 hbox hb; have BK102 := Aside0.mk hbox; have GW102 := bg_ HB hg; have GE102 := bg_ HB hg; replace HB := bs_ HB hb; clear hb hbox hg; obtain ⟨hcz11_0, hcz11_1, hcz11_2, hfz11_0, hfz11_1, hfz11_2⟩ := c3_ BK102))
         repeat (go_quiet (first | ((with_reducible refine gate_dst (N := 5) rfl ?_); refine box_e 5 #[.int .i64 0, .int .i64 0, .int .u8 0] 23 ?_; intro gb102 hg w10 hbox hb; have BK102 := Aside0.mk hbox; have GW102 := bg_ HB hg; have GE102 := bg_ HB hg; replace HB := bs_ HB hb; clear hb hbox hg; obtain ⟨hcz11_0, hcz11_1, hcz11_2, hfz11_0, hfz11_1, hfz11_2⟩ := c3_ BK102)); try go_wp2_with (first | ((with_reducible refine gate_dst (N := 5) rfl ?_); refine box_e 5 #[.int .i64 0, .int .i64 0, .int .u8 0] 23 ?_; intro gb102 hg w10 hbox hb; have BK102 := Aside0.mk hbox; have GW102 := bg_ HB hg; have GE102 := bg_ HB hg; replace HB := bs_ HB hb; clear hb hbox hg; obtain ⟨hcz11_0, hcz11_1, hcz11_2, hfz11_0, hfz11_1, hfz11_2⟩ := c3_ BK102)))
         go_ret
         exact ⟨by first | rfl | (simp [errW_none, errW_some] <;> rfl) | (simp [*, errW_none, errW_some] <;> rfl), bh_ HB⟩
        ·rw [if_neg c9] at H
         have c9b0 : decide ((wrap64 (1099511627776 - x3_1)) < ((rd_T23 l0 x8_1).f1)) = false := decide_eq_false c9
         clear c9
         replace H := Option.bind_eq_some_iff.mp H
         obtain ⟨t103, A120, H⟩ := H
         replace H : (if t103 = true then (if x8_1 > 0 then (if 0 ≤ (wrap64 (x8_1 - 1)) then (if (wrap64 (x8_1 - 1)) < (l0.length : Int) then (if ((rd_T23 l0 (wrap64 (x8_1 - 1))).f2) = ((rd_T23 l0 x8_1).f2) then (some false) else (region_May.l0 k1 l0 (wrap64 (x3_1 + ((rd_T23 l0 x8_1).f1))) l0 (l0.length : Int) (wrap64 (x8_1 + 1)))) else (none)) else (none)) else (region_May.l0 k1 l0 (wrap64 (x3_1 + ((rd_T23 l0 x8_1).f1))) l0 (l0.length : Int) (wrap64 (x8_1 + 1)))) else (some false)) = some r := H
         have A12 := Aside0.mk A120
         clear A120
         by_cases c13 : t103 = true
         ·subst c13
          have H1 : (if x8_1 > 0 then (if 0 ≤ (wrap64 (x8_1 - 1)) then (if (wrap64 (x8_1 - 1)) < (l0.length : Int) then (if ((rd_T23 l0 (wrap64 (x8_1 - 1))).f2) = ((rd_T23 l0 x8_1).f2) then (some false) else (region_May.l0 k1 l0 (wrap64 (x3_1 + ((rd_T23 l0 x8_1).f1))) l0 (l0.length : Int) (wrap64 (x8_1 + 1)))) else (none)) else (none)) else (region_May.l0 k1 l0 (wrap64 (x3_1 + ((rd_T23 l0 x8_1).f1))) l0 (l0.length : Int) (wrap64 (x8_1 + 1)))) = some r := by rw [if_pos rfl] at H; exact H
          clear H
          have H := H1
          clear H1
          by_cases c14 : x8_1 > 0
          ·rw [if_pos c14] at H
           have c14b0 : decide (0 < x8_1) = true := decide_eq_true c14
           clear c14
           obtain ⟨ji15, hji15⟩ : ∃ j_ : Int, (wrap64 (x8_1 - 1)) = j_ := ⟨_, rfl⟩
           replace H : (if 0 ≤ (ji15) then (if (ji15) < (l0.length : Int) then (if ((rd_T23 l0 (ji15)).f2) = ((rd_T23 l0 x8_1).f2) then (some false) else (region_May.l0 k1 l0 (wrap64 (x3_1 + ((rd_T23 l0 x8_1).f1))) l0 (l0.length : Int) (wrap64 (x8_1 + 1)))) else (none)) else (none)) = some r := by first | (rw [hji15] at H; exact H) | (simp only [hji15] at H ⊢; exact H)
           (try rw [hji15] at A12)
           have hji15w : (IntKind.i64.wrap (x8_1 - 1)) = ji15 := (i64_w _).trans hji15
           by_cases c16 : 0 ≤ (ji15)
           ·rw [if_pos c16] at H
            have c16b0 : decide (0 ≤ (ji15)) = true := decide_eq_true c16
            clear c16
            by_cases c17 : (ji15) < (l0.length : Int)
            ·rw [if_pos c17] at H
             have c17b0 : decide ((ji15) < (l0.length : Int)) = true := decide_eq_true c17
             clear c17
             by_cases c18 : ((rd_T23 l0 (ji15)).f2) = ((rd_T23 l0 x8_1).f2)
             ·rw [if_pos c18] at H
              have c18b0 : (((rd_T23 l0 (ji15)).f2) == ((rd_T23 l0 x8_1).f2)) = true := beq_iff_eq.mpr c18
              have c18b1 : (((rd_T23 l0 (ji15)).f2) != ((rd_T23 l0 x8_1).f2)) = false := bne_eq_false_iff_eq.mpr c18
              clear c18
              obtain rfl := Option.some.inj H
              have p101 : 0 ≤ (x8_1 : Int) := of_decide_eq_true (by first | (with_reducible assumption) | assumption)
              have q101 : x8_1 < (l0.length : Int) := of_decide_eq_true (by first | (with_reducible assumption) | assumption)
              obtain ⟨ad101, e101, hx101_0, hx101_1, hx101_2⟩ := at_T23 HR0.out x8_1 p101 q101
              cases e101
              replace hx101_0 := (HB.out.cell (World.block_lt_of_cell? w _ hx101_0)).trans hx101_0
              replace hx101_1 := (HB.out.cell (World.block_lt_of_cell? w _ hx101_1)).trans hx101_1
              replace hx101_2 := (HB.out.cell (World.block_lt_of_cell? w _ hx101_2)).trans hx101_2
              replace p101 := eq_true p101
              replace q101 := eq_true q101
              obtain ⟨ad301, e301, hx301_0, hx301_1, hx301_2⟩ := at_T23 HR0.out (ji15) (of_decide_eq_true c16b0) (of_decide_eq_true c17b0)
              cases e301
              have X301_0 := Aside0.mk hx301_0
              have X301_1 := Aside0.mk hx301_1
              have X301_2 := Aside0.mk hx301_2
              clear hx301_0 hx301_1 hx301_2
              have p301 := eq_true (of_decide_eq_true c16b0)
              have q301 := eq_true (of_decide_eq_true c17b0)
              go_wp2_with (first | ((with_reducible refine gate_dst (N := 5) rfl ?_); refine box_e 5 #[.int .i64 0, .int .i64 0, .int .u8 0] 23 ?_; intro gb102 hg w19 hbox hb; have BK102 := Aside0.mk hbox; have GW102 := bg_ HB hg; have GE102 := bg_ HB hg; replace HB := bs_ HB hb; clear hb hbox hg; obtain ⟨hcz20_0, hcz20_1, hcz20_2, hfz20_0, hfz20_1, hfz20_2⟩ := c3_ BK102) | (go_at_call 37; (with_reducible refine (region_Is.calls ((rd_T23 l0 x8_1).f2) true _ A12.out).mono ?_); rintro e w' ⟨rfl, ⟨nd, rfl⟩⟩; (try first | exact ⟨rfl, _, World.drewN_drewN _ _ _⟩ | exact ⟨rfl, _, Eq.trans (World.drewN_drewN _ _ _) (congrArg (World.drewN _) (Nat.add_assoc _ _ _))⟩); have p104 : 0 ≤ ((ji15) : Int) := of_decide_eq_true (by first | (with_reducible assumption) | assumption); have q104 : (ji15) < (l0.length : Int) := of_decide_eq_true (by first | (with_reducible assumption) | assumption); obtain ⟨ad104, e104, hx104_0, hx104_1, hx104_2⟩ := at_T23 HR0.out (ji15) p104 q104; obtain rfl : ad101 = ad104 := (by injection e104); have hn104_0 : ad101.block ≠ gb102 := Nat.ne_of_lt (Nat.lt_of_lt_of_le (by have := World.block_lt_of_cell? _ _ hx104_0; first | rwa [add_block] at this | exact this) GW102.out); have hn104_1 : ad101.block ≠ gb102 := Nat.ne_of_lt (Nat.lt_of_lt_of_le (by have := World.block_lt_of_cell? _ _ hx104_0; first | rwa [add_block] at this | exact this) GW102.out); have hn104_2 : ad101.block ≠ gb102 := Nat.ne_of_lt (Nat.lt_of_lt_of_le (by have := World.block_lt_of_cell? _ _ hx104_0; first | rwa [add_block] at this | exact this) GW102.out); replace hx104_0 := (HB.out.cell (World.block_lt_of_cell? w _ hx104_0)).trans hx104_0; replace hx104_1 := (HB.out.cell (World.block_lt_of_cell? w _ hx104_1)).trans hx104_1; replace hx104_2 := (HB.out.cell (World.block_lt_of_cell? w _ hx104_2)).trans hx104_2; replace hx104_0 := (cell_far (p := ⟨gb102, 0, none⟩) (by first | (rw [add_block]; exact hn104_0) | (show (Addr.add _ _).block ≠ _; rw [add_block]; exact hn104_0) | exact hn104_0) (.int .i64 ((rd_T23 l0 x8_1).f0))).trans hx104_0; replace hx104_1 := (cell_far (p := ⟨gb102, 0, none⟩) (by first | (rw [add_block]; exact hn104_0) | (show (Addr.add _ _).block ≠ _; rw [add_block]; exact hn104_0) | exact hn104_0) (.int .i64 ((rd_T23 l0 x8_1).f0))).trans hx104_1; replace hx104_2 := (cell_far (p := ⟨gb102, 0, none⟩) (by first | (rw [add_block]; exact hn104_0) | (show (Addr.add _ _).block ≠ _; rw [add_block]; exact hn104_0) | exact hn104_0) (.int .i64 ((rd_T23 l0 x8_1).f0))).trans hx104_2; replace hx104_0 := (cell_far (p := ⟨gb102, 1, none⟩) (by first | (rw [add_block]; exact hn104_1) | (show (Addr.add _ _).block ≠ _; rw [add_block]; exact hn104_1) | exact hn104_1) (.int .i64 ((rd_T23 l0 x8_1).f1))).trans hx104_0; replace hx104_1 := (cell_far (p := ⟨gb102, 1, none⟩) (by first | (rw [add_block]; exact hn104_1) | (show (Addr.add _ _).block ≠ _; rw [add_block]; exact hn104_1) | exact hn104_1) (.int .i64 ((rd_T23 l0 x8_1).f1))).trans hx104_1; replace hx104_2 := (cell_far (p := ⟨gb102, 1, none⟩) (by first | (rw [add_block]; exact hn104_1) | (show (Addr.add _ _).block ≠ _; rw [add_block]; exact hn104_1) | exact hn104_1) (.int .i64 ((rd_T23 l0 x8_1).f1))).trans hx104_2; replace hx104_0 := (cell_far (p := ⟨gb102, 2, none⟩) (by first | (rw [add_block]; exact hn104_2) | (show (Addr.add _ _).block ≠ _; rw [add_block]; exact hn104_2) | exact hn104_2) (.int .u8 ((rd_T23 l0 x8_1).f2))).trans hx104_0; replace hx104_1 := (cell_far (p := ⟨gb102, 2, none⟩) (by first | (rw [add_block]; exact hn104_2) | (show (Addr.add _ _).block ≠ _; rw [add_block]; exact hn104_2) | exact hn104_2) (.int .u8 ((rd_T23 l0 x8_1).f2))).trans hx104_1; replace hx104_2 := (cell_far (p := ⟨gb102, 2, none⟩) (by first | (rw [add_block]; exact hn104_2) | (show (Addr.add _ _).block ≠ _; rw [add_block]; exact hn104_2) | exact hn104_2) (.int .u8 ((rd_T23 l0 x8_1).f2))).trans hx104_2; (try have hy104_0 := fun (n_ : Nat) => (show (((((w19.drewN n_).setCell ⟨gb102, 0, none⟩ (.int .i64 ((rd_T23 l0 x8_1).f0))).setCell ⟨gb102, 1, none⟩ (.int .i64 ((rd_T23 l0 x8_1).f1))).setCell ⟨gb102, 2, none⟩ (.int .u8 ((rd_T23 l0 x8_1).f2)))).cell? _ = some _ from hx104_0)); (try have hy104_1 := fun (n_ : Nat) => (show (((((w19.drewN n_).setCell ⟨gb102, 0, none⟩ (.int .i64 ((rd_T23 l0 x8_1).f0))).setCell ⟨gb102, 1, none⟩ (.int .i64 ((rd_T23 l0 x8_1).f1))).setCell ⟨gb102, 2, none⟩ (.int .u8 ((rd_T23 l0 x8_1).f2)))).cell? _ = some _ from hx104_1)); (try have hy104_2 := fun (n_ : Nat) => (show (((((w19.drewN n_).setCell ⟨gb102, 0, none⟩ (.int .i64 ((rd_T23 l0 x8_1).f0))).setCell ⟨gb102, 1, none⟩ (.int .i64 ((rd_T23 l0 x8_1).f1))).setCell ⟨gb102, 2, none⟩ (.int .u8 ((rd_T23 l0 x8_1).f2)))).cell? _ = some _ from hx104_2)); clear hn104_0; clear hn104_1; clear hn104_2; replace p104 := eq_true p104; replace q104 := eq_true q104))
              have hx301_0 := (HB.out.cell (World.block_lt_of_cell? w _ X301_0.out)).trans X301_0.out
              have hx301_1 := (HB.out.cell (World.block_lt_of_cell? w _ X301_1.out)).trans X301_1.out
              have hx301_2 := (HB.out.cell (World.block_lt_of_cell? w _ X301_2.out)).trans X301_2.out
              have Xc_ : decide (IntKind.i64.wrap (1099511627776 - x3_1) < ((rd_T23 l0 x8_1).f1)) = false := by rw [i64_w]; exact c9b0
              repeat (go_quiet (first | ((with_reducible refine gate_dst (N := 5) rfl ?_); refine box_e 5 #[.int .i64 0, .int .i64 0, .int .u8 0] 23 ?_; intro gb102 hg w19 hbox hb; have BK102 := Aside0.mk hbox; have GW102 := bg_ HB hg; have GE102 := bg_ HB hg; replace HB := bs_ HB hb; clear hb hbox hg; obtain ⟨hcz20_0, hcz20_1, hcz20_2, hfz20_0, hfz20_1, hfz20_2⟩ := c3_ BK102) | (go_at_call 37; (with_reducible refine (region_Is.calls ((rd_T23 l0 x8_1).f2) true _ A12.out).mono ?_); rintro e w' ⟨rfl, ⟨nd, rfl⟩⟩; (try first | exact ⟨rfl, _, World.drewN_drewN _ _ _⟩ | exact ⟨rfl, _, Eq.trans (World.drewN_drewN _ _ _) (congrArg (World.drewN _) (Nat.add_assoc _ _ _))⟩); have p104 : 0 ≤ ((ji15) : Int) := of_decide_eq_true (by first | (with_reducible assumption) | assumption); have q104 : (ji15) < (l0.length : Int) := of_decide_eq_true (by first | (with_reducible assumption) | assumption); obtain ⟨ad104, e104, hx104_0, hx104_1, hx104_2⟩ := at_T23 HR0.out (ji15) p104 q104; obtain rfl : ad101 = ad104 := (by injection e104); have hn104_0 : ad101.block ≠ gb102 := Nat.ne_of_lt (Nat.lt_of_lt_of_le (by have := World.block_lt_of_cell? _ _ hx104_0; first | rwa [add_block] at this | exact this) GW102.out); have hn104_1 : ad101.block ≠ gb102 := Nat.ne_of_lt (Nat.lt_of_lt_of_le (by have := World.block_lt_of_cell? _ _ hx104_0; first | rwa [add_block] at this | exact this) GW102.out); have hn104_2 : ad101.block ≠ gb102 := Nat.ne_of_lt (Nat.lt_of_lt_of_le (by have := World.block_lt_of_cell? _ _ hx104_0; first | rwa [add_block] at this | exact this) GW102.out); replace hx104_0 := (HB.out.cell (World.block_lt_of_cell? w _ hx104_0)).trans hx104_0; replace hx104_1 := (HB.out.cell (World.block_lt_of_cell? w _ hx104_1)).trans hx104_1; replace hx104_2 := (HB.out.cell (World.block_lt_of_cell? w _ hx104_2)).trans hx104_2; replace hx104_0 := (cell_far (p := ⟨gb102, 0, none⟩) (by first | (rw [add_block]; exact hn104_0) | (show (Addr.add _ _).block ≠ _; rw [add_block]; exact hn104_0) | exact hn104_0) (.int .i64 ((rd_T23 l0 x8_1).f0))).trans hx104_0; replace hx104_1 := (cell_far (p := ⟨gb102, 0, none⟩) (by first | (rw [add_block]; exact hn104_0) | (show (Addr.add _ _).block ≠ _; rw [add_block]; exact hn104_0) | exact hn104_0) (.int .i64 ((rd_T23 l0 x8_1).f0))).trans hx104_1; replace hx104_2 := (cell_far (p := ⟨gb102, 0, none⟩) (by first | (rw [add_block]; exact hn104_0) | (show (Addr.add _ _).block ≠ _; rw [add_block]; exact hn104_0) | exact hn104_0) (.int .i64 ((rd_T23 l0 x8_1).f0))).trans hx104_2; replace hx104_0 := (cell_far (p := ⟨gb102, 1, none⟩) (by first | (rw [add_block]; exact hn104_1) | (show (Addr.add _ _).block ≠ _; rw [add_block]; exact hn104_1) | exact hn104_1) (.int .i64 ((rd_T23 l0 x8_1).f1))).trans hx104_0; replace hx104_1 := (cell_far (p := ⟨gb102, 1, none⟩) (by first | (rw [add_block]; exact hn104_1) | (show (Addr.add _ _).block ≠ _; rw [add_block]; exact hn104_1) | exact hn104_1) (.int .i64 ((rd_T23 l0 x8_1).f1))).trans hx104_1; replace hx104_2 := (cell_far (p := ⟨gb102, 1, none⟩) (by first | (rw [add_block]; exact hn104_1) | (show (Addr.add _ _).block ≠ _; rw [add_block]; exact hn104_1) | exact hn104_1) (.int .i64 ((rd_T23 l0 x8_1).f1))).trans hx104_2; replace hx104_0 := (cell_far (p := ⟨gb102, 2, none⟩) (by first | (rw [add_block]; exact hn104_2) | (show (Addr.add _ _).block ≠ _; rw [add_block]; exact hn104_2) | exact hn104_2) (.int .u8 ((rd_T23 l0 x8_1).f2))).trans hx104_0; replace hx104_1 := (cell_far (p := ⟨gb102, 2, none⟩) (by first | (rw [add_block]; exact hn104_2) | (show (Addr.add _ _).block ≠ _; rw [add_block]; exact hn104_2) | exact hn104_2) (.int .u8 ((rd_T23 l0 x8_1).f2))).trans hx104_1; replace hx104_2 := (cell_far (p := ⟨gb102, 2, none⟩) (by first | (rw [add_block]; exact hn104_2) | (show (Addr.add _ _).block ≠ _; rw [add_block]; exact hn104_2) | exact hn104_2) (.int .u8 ((rd_T23 l0 x8_1).f2))).trans hx104_2; (try have hy104_0 := fun (n_ : Nat) => (show (((((w19.drewN n_).setCell ⟨gb102, 0, none⟩ (.int .i64 ((rd_T23 l0 x8_1).f0))).setCell ⟨gb102, 1, none⟩ (.int .i64 ((rd_T23 l0 x8_1).f1))).setCell ⟨gb102, 2, none⟩ (.int .u8 ((rd_T23 l0 x8_1).f2)))).cell? _ = some _ from hx104_0)); (try have hy104_1 := fun (n_ : Nat) => (show (((((w19.drewN n_).setCell ⟨gb102, 0, none⟩ (.int .i64 ((rd_T23 l0 x8_1).f0))).setCell ⟨gb102, 1, none⟩ (.int .i64 ((rd_T23 l0 x8_1).f1))).setCell ⟨gb102, 2, none⟩ (.int .u8 ((rd_T23 l0 x8_1).f2)))).cell? _ = some _ from hx104_1)); (try have hy104_2 := fun (n_ : Nat) => (show (((((w19.drewN n_).setCell ⟨gb102, 0, none⟩ (.int .i64 ((rd_T23 l0 x8_1).f0))).setCell ⟨gb102, 1, none⟩ (.int .i64 ((rd_T23 l0 x8_1).f1))).setCell ⟨gb102, 2, none⟩ (.int .u8 ((rd_T23 l0 x8_1).f2)))).cell? _ = some _ from hx104_2)); clear hn104_0; clear hn104_1; clear hn104_2; replace p104 := eq_true p104; replace q104 := eq_true q104)); try go_wp2_with (first | ((with_reducible refine gate_dst (N := 5) rfl ?_); refine box_e 5 #[.int .i64 0, .int .i64 0, .int .u8 0] 23 ?_; intro gb102 hg w19 hbox hb; have BK102 := Aside0.mk hbox; have GW102 := bg_ HB hg; have GE102 := bg_ HB hg; replace HB := bs_ HB hb; clear hb hbox hg; obtain ⟨hcz20_0, hcz20_1, hcz20_2, hfz20_0, hfz20_1, hfz20_2⟩ := c3_ BK102) | (go_at_call 37; (with_reducible refine (region_Is.calls ((rd_T23 l0 x8_1).f2) true _ A12.out).mono ?_); rintro e w' ⟨rfl, ⟨nd, rfl⟩⟩; (try first | exact ⟨rfl, _, World.drewN_drewN _ _ _⟩ | exact ⟨rfl, _, Eq.trans (World.drewN_drewN _ _ _) (congrArg (World.drewN _) (Nat.add_assoc _ _ _))⟩); have p104 : 0 ≤ ((ji15) : Int) := of_decide_eq_true (by first | (with_reducible assumption) | assumption); have q104 : (ji15) < (l0.length : Int) := of_decide_eq_true (by first | (with_reducible assumption) | assumption); obtain ⟨ad104, e104, hx104_0, hx104_1, hx104_2⟩ := at_T23 HR0.out (ji15) p104 q104; obtain rfl : ad101 = ad104 := (by injection e104); have hn104_0 : ad101.block ≠ gb102 := Nat.ne_of_lt (Nat.lt_of_lt_of_le (by have := World.block_lt_of_cell? _ _ hx104_0; first | rwa [add_block] at this | exact this) GW102.out); have hn104_1 : ad101.block ≠ gb102 := Nat.ne_of_lt (Nat.lt_of_lt_of_le (by have := World.block_lt_of_cell? _ _ hx104_0; first | rwa [add_block] at this | exact this) GW102.out); have hn104_2 : ad101.block ≠ gb102 := Nat.ne_of_lt (Nat.lt_of_lt_of_le (by have := World.block_lt_of_cell? _ _ hx104_0; first | rwa [add_block] at this | exact this) GW102.out); replace hx104_0 := (HB.out.cell (World.block_lt_of_cell? w _ hx104_0)).trans hx104_0; replace hx104_1 := (HB.out.cell (World.block_lt_of_cell? w _ hx104_1)).trans hx104_1; replace hx104_2 := (HB.out.cell (World.block_lt_of_cell? w _ hx104_2)).trans hx104_2; replace hx104_0 := (cell_far (p := ⟨gb102, 0, none⟩) (by first | (rw [add_block]; exact hn104_0) | (show (Addr.add _ _).block ≠ _; rw [add_block]; exact hn104_0) | exact hn104_0) (.int .i64 ((rd_T23 l0 x8_1).f0))).trans hx104_0; replace hx104_1 := (cell_far (p := ⟨gb102, 0, none⟩) (by first | (rw [add_block]; exact hn104_0) | (show (Addr.add _ _).block ≠ _; rw [add_block]; exact hn104_0) | exact hn104_0) (.int .i64 ((rd_T23 l0 x8_1).f0))).trans hx104_1; replace hx104_2 := (cell_far (p := ⟨gb102, 0, none⟩) (by first | (rw [add_block]; exact hn104_0) | (show (Addr.add _ _).block ≠ _; rw [add_block]; exact hn104_0) | exact hn104_0) (.int .i64 ((rd_T23 l0 x8_1).f0))).trans hx104_2; replace hx104_0 := (cell_far (p := ⟨gb102, 1, none⟩) (by first | (rw [add_block]; exact hn104_1) | (show (Addr.add _ _).block ≠ _; rw [add_block]; exact hn104_1) | exact hn104_1) (.int .i64 ((rd_T23 l0 x8_1).f1))).trans hx104_0; replace hx104_1 := (cell_far (p := ⟨gb102, 1, none⟩) (by first | (rw [add_block]; exact hn104_1) | (show (Addr.add _ _).block ≠ _; rw [add_block]; exact hn104_1) | exact hn104_1) (.int .i64 ((rd_T23 l0 x8_1).f1))).trans hx104_1; replace hx104_2 := (cell_far (p := ⟨gb102, 1, none⟩) (by first | (rw [add_block]; exact hn104_1) | (show (Addr.add _ _).block ≠ _; rw [add_block]; exact hn104_1) | exact hn104_1) (.int .i64 ((rd_T23 l0 x8_1).f1))).trans hx104_2; replace hx104_0 := (cell_far (p := ⟨gb102, 2, none⟩) (by first | (rw [add_block]; exact hn104_2) | (show (Addr.add _ _).block ≠ _; rw [add_block]; exact hn104_2) | exact hn104_2) (.int .u8 ((rd_T23 l0 x8_1).f2))).trans hx104_0; replace hx104_1 := (cell_far (p := ⟨gb102, 2, none⟩) (by first | (rw [add_block]; exact hn104_2) | (show (Addr.add _ _).block ≠ _; rw [add_block]; exact hn104_2) | exact hn104_2) (.int .u8 ((rd_T23 l0 x8_1).f2))).trans hx104_1; replace hx104_2 := (cell_far (p := ⟨gb102, 2, none⟩) (by first | (rw [add_block]; exact hn104_2) | (show (Addr.add _ _).block ≠ _; rw [add_block]; exact hn104_2) | exact hn104_2) (.int .u8 ((rd_T23 l0 x8_1).f2))).trans hx104_2; (try have hy104_0 := fun (n_ : Nat) => (show (((((w19.drewN n_).setCell ⟨gb102, 0, none⟩ (.int .i64 ((rd_T23 l0 x8_1).f0))).setCell ⟨gb102, 1, none⟩ (.int .i64 ((rd_T23 l0 x8_1).f1))).setCell ⟨gb102, 2, none⟩ (.int .u8 ((rd_T23 l0 x8_1).f2)))).cell? _ = some _ from hx104_0)); (try have hy104_1 := fun (n_ : Nat) => (show (((((w19.drewN n_).setCell ⟨gb102, 0, none⟩ (.int .i64 ((rd_T23 l0 x8_1).f0))).setCell ⟨gb102, 1, none⟩ (.int .i64 ((rd_T23 l0 x8_1).f1))).setCell ⟨gb102, 2, none⟩ (.int .u8 ((rd_T23 l0 x8_1).f2)))).cell? _ = some _ from hx104_1)); (try have hy104_2 := fun (n_ : Nat) => (show (((((w19.drewN n_).setCell ⟨gb102, 0, none⟩ (.int .i64 ((rd_T23 l0 x8_1).f0))).setCell ⟨gb102, 1, none⟩ (.int .i64 ((rd_T23 l0 x8_1).f1))).setCell ⟨gb102, 2, none⟩ (.int .u8 ((rd_T23 l0 x8_1).f2)))).cell? _ = some _ from hx104_2)); clear hn104_0; clear hn104_1; clear hn104_2; replace p104 := eq_true p104; replace q104 := eq_true q104)))
              go_ret
              exact ⟨by first | rfl | (simp [errW_none, errW_some] <;> rfl) | (simp only [← hji15]; first | rfl | (simp [errW_none, errW_some] <;> rfl)) | (simp [*, errW_none, errW_some] <;> rfl), bh_ HB⟩
             ·rw [if_neg c18] at H
              have c18b0 : (((rd_T23 l0 (ji15)).f2) == ((rd_T23 l0 x8_1).f2)) = false := beq_eq_false_iff_ne.mpr c18
              have c18b1 : (((rd_T23 l0 (ji15)).f2) != ((rd_T23 l0 x8_1).f2)) = true := bne_iff_ne.mpr c18
              have H' := Aside0.mk H
              clear H
              have p101 : 0 ≤ (x8_1 : Int) := of_decide_eq_true (by first | (with_reducible assumption) | assumption)
              have q101 : x8_1 < (l0.length : Int) := of_decide_eq_true (by first | (with_reducible assumption) | assumption)
              obtain ⟨ad101, e101, hx101_0, hx101_1, hx101_2⟩ := at_T23 HR0.out x8_1 p101 q101
              cases e101
              replace hx101_0 := (HB.out.cell (World.block_lt_of_cell? w _ hx101_0)).trans hx101_0
              replace hx101_1 := (HB.out.cell (World.block_lt_of_cell? w _ hx101_1)).trans hx101_1
              replace hx101_2 := (HB.out.cell (World.block_lt_of_cell? w _ hx101_2)).trans hx101_2
              replace p101 := eq_true p101
              replace q101 := eq_true q101
              obtain ⟨ad301, e301, hx301_0, hx301_1, hx301_2⟩ := at_T23 HR0.out (ji15) (of_decide_eq_true c16b0) (of_decide_eq_true c17b0)
              cases e301
              have X301_0 := Aside0.mk hx301_0
              have X301_1 := Aside0.mk hx301_1
              have X301_2 := Aside0.mk hx301_2
              clear hx301_0 hx301_1 hx301_2
              have p301 := eq_true (of_decide_eq_true c16b0)
              have q301 := eq_true (of_decide_eq_true c17b0)
              go_wp2_with (first | ((with_reducible refine gate_dst (N := 5) rfl ?_); refine box_e 5 #[.int .i64 0, .int .i64 0, .int .u8 0] 23 ?_; intro gb102 hg w21 hbox hb; have BK102 := Aside0.mk hbox; have GW102 := bg_ HB hg; have GE102 := bg_ HB hg; replace HB := bs_ HB hb; clear hb hbox hg; obtain ⟨hcz22_0, hcz22_1, hcz22_2, hfz22_0, hfz22_1, hfz22_2⟩ := c3_ BK102) | (go_at_call 37; (with_reducible refine (region_Is.calls ((rd_T23 l0 x8_1).f2) true _ A12.out).mono ?_); rintro e w' ⟨rfl, ⟨nd, rfl⟩⟩; (try first | exact ⟨rfl, _, World.drewN_drewN _ _ _⟩ | exact ⟨rfl, _, Eq.trans (World.drewN_drewN _ _ _) (congrArg (World.drewN _) (Nat.add_assoc _ _ _))⟩); have p104 : 0 ≤ ((ji15) : Int) := of_decide_eq_true (by first | (with_reducible assumption) | assumption); have q104 : (ji15) < (l0.length : Int) := of_decide_eq_true (by first | (with_reducible assumption) | assumption); obtain ⟨ad104, e104, hx104_0, hx104_1, hx104_2⟩ := at_T23 HR0.out (ji15) p104 q104; obtain rfl : ad101 = ad104 := (by injection e104); have hn104_0 : ad101.block ≠ gb102 := Nat.ne_of_lt (Nat.lt_of_lt_of_le (by have := World.block_lt_of_cell? _ _ hx104_0; first | rwa [add_block] at this | exact this) GW102.out); have hn104_1 : ad101.block ≠ gb102 := Nat.ne_of_lt (Nat.lt_of_lt_of_le (by have := World.block_lt_of_cell? _ _ hx104_0; first | rwa [add_block] at this | exact this) GW102.out); have hn104_2 : ad101.block ≠ gb102 := Nat.ne_of_lt (Nat.lt_of_lt_of_le (by have := World.block_lt_of_cell? _ _ hx104_0; first | rwa [add_block] at this | exact this) GW102.out); replace hx104_0 := (HB.out.cell (World.block_lt_of_cell? w _ hx104_0)).trans hx104_0; replace hx104_1 := (HB.out.cell (World.block_lt_of_cell? w _ hx104_1)).trans hx104_1; replace hx104_2 := (HB.out.cell (World.block_lt_of_cell? w _ hx104_2)).trans hx104_2; replace hx104_0 := (cell_far (p := ⟨gb102, 0, none⟩) (by first | (rw [add_block]; exact hn104_0) | (show (Addr.add _ _).block ≠ _; rw [add_block]; exact hn104_0) | exact hn104_0) (.int .i64 ((rd_T23 l0 x8_1).f0))).trans hx104_0; replace hx104_1 := (cell_far (p := ⟨gb102, 0, none⟩) (by first | (rw [add_block]; exact hn104_0) | (show (Addr.add _ _).block ≠ _; rw [add_block]; exact hn104_0) | exact hn104_0) (.int .i64 ((rd_T23 l0 x8_1).f0))).trans hx104_1; replace hx104_2 := (cell_far (p := ⟨gb102, 0, none⟩) (by first | (rw [add_block]; exact hn104_0) | (show (Addr.add _ _).block ≠ _; rw [add_block]; exact hn104_0) | exact hn104_0) (.int .i64 ((rd_T23 l0 x8_1).f0))).trans hx104_2; replace hx104_0 := (cell_far (p := ⟨gb102, 1, none⟩) (by first | (rw [add_block]; exact hn104_1) | (show (Addr.add _ _).block ≠ _; rw [add_block]; exact hn104_1) | exact hn104_1) (.int .i64 ((rd_T23 l0 x8_1).f1))).trans hx104_0; replace hx104_1 := (cell_far (p := ⟨gb102, 1, none⟩) (by first | (rw [add_block]; exact hn104_1) | (show (Addr.add _ _).block ≠ _; rw [add_block]; exact hn104_1) | exact hn104_1) (.int .i64 ((rd_T23 l0 x8_1).f1))).trans hx104_1; replace hx104_2 := (cell_far (p := ⟨gb102, 1, none⟩) (by first | (rw [add_block]; exact hn104_1) | (show (Addr.add _ _).block ≠ _; rw [add_block]; exact hn104_1) | exact hn104_1) (.int .i64 ((rd_T23 l0 x8_1).f1))).trans hx104_2; replace hx104_0 := (cell_far (p := ⟨gb102, 2, none⟩) (by first | (rw [add_block]; exact hn104_2) | (show (Addr.add _ _).block ≠ _; rw [add_block]; exact hn104_2) | exact hn104_2) (.int .u8 ((rd_T23 l0 x8_1).f2))).trans hx104_0; replace hx104_1 := (cell_far (p := ⟨gb102, 2, none⟩) (by first | (rw [add_block]; exact hn104_2) | (show (Addr.add _ _).block ≠ _; rw [add_block]; exact hn104_2) | exact hn104_2) (.int .u8 ((rd_T23 l0 x8_1).f2))).trans hx104_1; replace hx104_2 := (cell_far (p := ⟨gb102, 2, none⟩) (by first | (rw [add_block]; exact hn104_2) | (show (Addr.add _ _).block ≠ _; rw [add_block]; exact hn104_2) | exact hn104_2) (.int .u8 ((rd_T23 l0 x8_1).f2))).trans hx104_2; (try have hy104_0 := fun (n_ : Nat) => (show (((((w21.drewN n_).setCell ⟨gb102, 0, none⟩ (.int .i64 ((rd_T23 l0 x8_1).f0))).setCell ⟨gb102, 1, none⟩ (.int .i64 ((rd_T23 l0 x8_1).f1))).setCell ⟨gb102, 2, none⟩ (.int .u8 ((rd_T23 l0 x8_1).f2)))).cell? _ = some _ from hx104_0)); (try have hy104_1 := fun (n_ : Nat) => (show (((((w21.drewN n_).setCell ⟨gb102, 0, none⟩ (.int .i64 ((rd_T23 l0 x8_1).f0))).setCell ⟨gb102, 1, none⟩ (.int .i64 ((rd_T23 l0 x8_1).f1))).setCell ⟨gb102, 2, none⟩ (.int .u8 ((rd_T23 l0 x8_1).f2)))).cell? _ = some _ from hx104_1)); (try have hy104_2 := fun (n_ : Nat) => (show (((((w21.drewN n_).setCell ⟨gb102, 0, none⟩ (.int .i64 ((rd_T23 l0 x8_1).f0))).setCell ⟨gb102, 1, none⟩ (.int .i64 ((rd_T23 l0 x8_1).f1))).setCell ⟨gb102, 2, none⟩ (.int .u8 ((rd_T23 l0 x8_1).f2)))).cell? _ = some _ from hx104_2)); clear hn104_0; clear hn104_1; clear hn104_2; replace p104 := eq_true p104; replace q104 := eq_true q104))
              have hx301_0 := (HB.out.cell (World.block_lt_of_cell? w _ X301_0.out)).trans X301_0.out
              have hx301_1 := (HB.out.cell (World.block_lt_of_cell? w _ X301_1.out)).trans X301_1.out
              have hx301_2 := (HB.out.cell (World.block_lt_of_cell? w _ X301_2.out)).trans X301_2.out
              have Xc_ : decide (IntKind.i64.wrap (1099511627776 - x3_1) < ((rd_T23 l0 x8_1).f1)) = false := by rw [i64_w]; exact c9b0
              repeat (go_quiet (first | ((with_reducible refine gate_dst (N := 5) rfl ?_); refine box_e 5 #[.int .i64 0, .int .i64 0, .int .u8 0] 23 ?_; intro gb102 hg w21 hbox hb; have BK102 := Aside0.mk hbox; have GW102 := bg_ HB hg; have GE102 := bg_ HB hg; replace HB := bs_ HB hb; clear hb hbox hg; obtain ⟨hcz22_0, hcz22_1, hcz22_2, hfz22_0, hfz22_1, hfz22_2⟩ := c3_ BK102) | (go_at_call 37; (with_reducible refine (region_Is.calls ((rd_T23 l0 x8_1).f2) true _ A12.out).mono ?_); rintro e w' ⟨rfl, ⟨nd, rfl⟩⟩; (try first | exact ⟨rfl, _, World.drewN_drewN _ _ _⟩ | exact ⟨rfl, _, Eq.trans (World.drewN_drewN _ _ _) (congrArg (World.drewN _) (Nat.add_assoc _ _ _))⟩); have p104 : 0 ≤ ((ji15) : Int) := of_decide_eq_true (by first | (with_reducible assumption) | assumption); have q104 : (ji15) < (l0.length : Int) := of_decide_eq_true (by first | (with_reducible assumption) | assumption); obtain ⟨ad104, e104, hx104_0, hx104_1, hx104_2⟩ := at_T23 HR0.out (ji15) p104 q104; obtain rfl : ad101 = ad104 := (by injection e104); have hn104_0 : ad101.block ≠ gb102 := Nat.ne_of_lt (Nat.lt_of_lt_of_le (by have := World.block_lt_of_cell? _ _ hx104_0; first | rwa [add_block] at this | exact this) GW102.out); have hn104_1 : ad101.block ≠ gb102 := Nat.ne_of_lt (Nat.lt_of_lt_of_le (by have := World.block_lt_of_cell? _ _ hx104_0; first | rwa [add_block] at this | exact this) GW102.out); have hn104_2 : ad101.block ≠ gb102 := Nat.ne_of_lt (Nat.lt_of_lt_of_le (by have := World.block_lt_of_cell? _ _ hx104_0; first | rwa [add_block] at this | exact this) GW102.out); replace hx104_0 := (HB.out.cell (World.block_lt_of_cell? w _ hx104_0)).trans hx104_0; replace hx104_1 := (HB.out.cell (World.block_lt_of_cell? w _ hx104_1)).trans hx104_1; replace hx104_2 := (HB.out.cell (World.block_lt_of_cell? w _ hx104_2)).trans hx104_2; replace hx104_0 := (cell_far (p := ⟨gb102, 0, none⟩) (by first | (rw [add_block]; exact hn104_0) | (show (Addr.add _ _).block ≠ _; rw [add_block]; exact hn104_0) | exact hn104_0) (.int .i64 ((rd_T23 l0 x8_1).f0))).trans hx104_0; replace hx104_1 := (cell_far (p := ⟨gb102, 0, none⟩) (by first | (rw [add_block]; exact hn104_0) | (show (Addr.add _ _).block ≠ _; rw [add_block]; exact hn104_0) | exact hn104_0) (.int .i64 ((rd_T23 l0 x8_1).f0))).trans hx104_1; replace hx104_2 := (cell_far (p := ⟨gb102, 0, none⟩) (by first | (rw [add_block]; exact hn104_0) | (show (Addr.add _ _).block ≠ _; rw [add_block]; exact hn104_0) | exact hn104_0) (.int .i64 ((rd_T23 l0 x8_1).f0))).trans hx104_2; replace hx104_0 := (cell_far (p := ⟨gb102, 1, none⟩) (by first | (rw [add_block]; exact hn104_1) | (show (Addr.add _ _).block ≠ _; rw [add_block]; exact hn104_1) | exact hn104_1) (.int .i64 ((rd_T23 l0 x8_1).f1))).trans hx104_0; replace hx104_1 := (cell_far (p := ⟨gb102, 1, none⟩) (by first | (rw [add_block]; exact hn104_1) | (show (Addr.add _ _).block ≠ _; rw [add_block]; exact hn104_1) | exact hn104_1) (.int .i64 ((rd_T23 l0 x8_1).f1))).trans hx104_1; replace hx104_2 := (cell_far (p := ⟨gb102, 1, none⟩) (by first | (rw [add_block]; exact hn104_1) | (show (Addr.add _ _).block ≠ _; rw [add_block]; exact hn104_1) | exact hn104_1) (.int .i64 ((rd_T23 l0 x8_1).f1))).trans hx104_2; replace hx104_0 := (cell_far (p := ⟨gb102, 2, none⟩) (by first | (rw [add_block]; exact hn104_2) | (show (Addr.add _ _).block ≠ _; rw [add_block]; exact hn104_2) | exact hn104_2) (.int .u8 ((rd_T23 l0 x8_1).f2))).trans hx104_0; replace hx104_1 := (cell_far (p := ⟨gb102, 2, none⟩) (by first | (rw [add_block]; exact hn104_2) | (show (Addr.add _ _).block ≠ _; rw [add_block]; exact hn104_2) | exact hn104_2) (.int .u8 ((rd_T23 l0 x8_1).f2))).trans hx104_1; replace hx104_2 := (cell_far (p := ⟨gb102, 2, none⟩) (by first | (rw [add_block]; exact hn104_2) | (show (Addr.add _ _).block ≠ _; rw [add_block]; exact hn104_2) | exact hn104_2) (.int .u8 ((rd_T23 l0 x8_1).f2))).trans hx104_2; (try have hy104_0 := fun (n_ : Nat) => (show (((((w21.drewN n_).setCell ⟨gb102, 0, none⟩ (.int .i64 ((rd_T23 l0 x8_1).f0))).setCell ⟨gb102, 1, none⟩ (.int .i64 ((rd_T23 l0 x8_1).f1))).setCell ⟨gb102, 2, none⟩ (.int .u8 ((rd_T23 l0 x8_1).f2)))).cell? _ = some _ from hx104_0)); (try have hy104_1 := fun (n_ : Nat) => (show (((((w21.drewN n_).setCell ⟨gb102, 0, none⟩ (.int .i64 ((rd_T23 l0 x8_1).f0))).setCell ⟨gb102, 1, none⟩ (.int .i64 ((rd_T23 l0 x8_1).f1))).setCell ⟨gb102, 2, none⟩ (.int .u8 ((rd_T23 l0 x8_1).f2)))).cell? _ = some _ from hx104_1)); (try have hy104_2 := fun (n_ : Nat) => (show (((((w21.drewN n_).setCell ⟨gb102, 0, none⟩ (.int .i64 ((rd_T23 l0 x8_1).f0))).setCell ⟨gb102, 1, none⟩ (.int .i64 ((rd_T23 l0 x8_1).f1))).setCell ⟨gb102, 2, none⟩ (.int .u8 ((rd_T23 l0 x8_1).f2)))).cell? _ = some _ from hx104_2)); clear hn104_0; clear hn104_1; clear hn104_2; replace p104 := eq_true p104; replace q104 := eq_true q104)); try go_wp2_with (first | ((with_reducible refine gate_dst (N := 5) rfl ?_); refine box_e 5 #[.int .i64 0, .int .i64 0, .int .u8 0] 23 ?_; intro gb102 hg w21 hbox hb; have BK102 := Aside0.mk hbox; have GW102 := bg_ HB hg; have GE102 := bg_ HB hg; replace HB := bs_ HB hb; clear hb hbox hg; obtain ⟨hcz22_0, hcz22_1, hcz22_2, hfz22_0, hfz22_1, hfz22_2⟩ := c3_ BK102) | (go_at_call 37; (with_reducible refine (region_Is.calls ((rd_T23 l0 x8_1).f2) true _ A12.out).mono ?_); rintro e w' ⟨rfl, ⟨nd, rfl⟩⟩; (try first | exact ⟨rfl, _, World.drewN_drewN _ _ _⟩ | exact ⟨rfl, _, Eq.trans (World.drewN_drewN _ _ _) (congrArg (World.drewN _) (Nat.add_assoc _ _ _))⟩); have p104 : 0 ≤ ((ji15) : Int) := of_decide_eq_true (by first | (with_reducible assumption) | assumption); have q104 : (ji15) < (l0.length : Int) := of_decide_eq_true (by first | (with_reducible assumption) | assumption); obtain ⟨ad104, e104, hx104_0, hx104_1, hx104_2⟩ := at_T23 HR0.out (ji15) p104 q104; obtain rfl : ad101 = ad104 := (by injection e104); have hn104_0 : ad101.block ≠ gb102 := Nat.ne_of_lt (Nat.lt_of_lt_of_le (by have := World.block_lt_of_cell? _ _ hx104_0; first | rwa [add_block] at this | exact this) GW102.out); have hn104_1 : ad101.block ≠ gb102 := Nat.ne_of_lt (Nat.lt_of_lt_of_le (by have := World.block_lt_of_cell? _ _ hx104_0; first | rwa [add_block] at this | exact this) GW102.out); have hn104_2 : ad101.block ≠ gb102 := Nat.ne_of_lt (Nat.lt_of_lt_of_le (by have := World.block_lt_of_cell? _ _ hx104_0; first | rwa [add_block] at this | exact this) GW102.out); replace hx104_0 := (HB.out.cell (World.block_lt_of_cell? w _ hx104_0)).trans hx104_0; replace hx104_1 := (HB.out.cell (World.block_lt_of_cell? w _ hx104_1)).trans hx104_1; replace hx104_2 := (HB.out.cell (World.block_lt_of_cell? w _ hx104_2)).trans hx104_2; replace hx104_0 := (cell_far (p := ⟨gb102, 0, none⟩) (by first | (rw [add_block]; exact hn104_0) | (show (Addr.add _ _).block ≠ _; rw [add_block]; exact hn104_0) | exact hn104_0) (.int .i64 ((rd_T23 l0 x8_1).f0))).trans hx104_0; replace hx104_1 := (cell_far (p := ⟨gb102, 0, none⟩) (by first | (rw [add_block]; exact hn104_0) | (show (Addr.add _ _).block ≠ _; rw [add_block]; exact hn104_0) | exact hn104_0) (.int .i64 ((rd_T23 l0 x8_1).f0))).trans hx104_1; replace hx104_2 := (cell_far (p := ⟨gb102, 0, none⟩) (by first | (rw [add_block]; exact hn104_0) | (show (Addr.add _ _).block ≠ _; rw [add_block]; exact hn104_0) | exact hn104_0) (.int .i64 ((rd_T23 l0 x8_1).f0))).trans hx104_2; replace hx104_0 := (cell_far (p := ⟨gb102, 1, none⟩) (by first | (rw [add_block]; exact hn104_1) | (show (Addr.add _ _).block ≠ _; rw [add_block]; exact hn104_1) | exact hn104_1) (.int .i64 ((rd_T23 l0 x8_1).f1))).trans hx104_0; replace hx104_1 := (cell_far (p := ⟨gb102, 1, none⟩) (by first | (rw [add_block]; exact hn104_1) | (show (Addr.add _ _).block ≠ _; rw [add_block]; exact hn104_1) | exact hn104_1) (.int .i64 ((rd_T23 l0 x8_1).f1))).trans hx104_1; replace hx104_2 := (cell_far (p := ⟨gb102, 1, none⟩) (by first | (rw [add_block]; exact hn104_1) | (show (Addr.add _ _).block ≠ _; rw [add_block]; exact hn104_1) | exact hn104_1) (.int .i64 ((rd_T23 l0 x8_1).f1))).trans hx104_2; replace hx104_0 := (cell_far (p := ⟨gb102, 2, none⟩) (by first | (rw [add_block]; exact hn104_2) | (show (Addr.add _ _).block ≠ _; rw [add_block]; exact hn104_2) | exact hn104_2) (.int .u8 ((rd_T23 l0 x8_1).f2))).trans hx104_0; replace hx104_1 := (cell_far (p := ⟨gb102, 2, none⟩) (by first | (rw [add_block]; exact hn104_2) | (show (Addr.add _ _).block ≠ _; rw [add_block]; exact hn104_2) | exact hn104_2) (.int .u8 ((rd_T23 l0 x8_1).f2))).trans hx104_1; replace hx104_2 := (cell_far (p := ⟨gb102, 2, none⟩) (by first | (rw [add_block]; exact hn104_2) | (show (Addr.add _ _).block ≠ _; rw [add_block]; exact hn104_2) | exact hn104_2) (.int .u8 ((rd_T23 l0 x8_1).f2))).trans hx104_2; (try have hy104_0 := fun (n_ : Nat) => (show (((((w21.drewN n_).setCell ⟨gb102, 0, none⟩ (.int .i64 ((rd_T23 l0 x8_1).f0))).setCell ⟨gb102, 1, none⟩ (.int .i64 ((rd_T23 l0 x8_1).f1))).setCell ⟨gb102, 2, none⟩ (.int .u8 ((rd_T23 l0 x8_1).f2)))).cell? _ = some _ from hx104_0)); (try have hy104_1 := fun (n_ : Nat) => (show (((((w21.drewN n_).setCell ⟨gb102, 0, none⟩ (.int .i64 ((rd_T23 l0 x8_1).f0))).setCell ⟨gb102, 1, none⟩ (.int .i64 ((rd_T23 l0 x8_1).f1))).setCell ⟨gb102, 2, none⟩ (.int .u8 ((rd_T23 l0 x8_1).f2)))).cell? _ = some _ from hx104_1)); (try have hy104_2 := fun (n_ : Nat) => (show (((((w21.drewN n_).setCell ⟨gb102, 0, none⟩ (.int .i64 ((rd_T23 l0 x8_1).f0))).setCell ⟨gb102, 1, none⟩ (.int .i64 ((rd_T23 l0 x8_1).f1))).setCell ⟨gb102, 2, none⟩ (.int .u8 ((rd_T23 l0 x8_1).f2)))).cell? _ = some _ from hx104_2)); clear hn104_0; clear hn104_1; clear hn104_2; replace p104 := eq_true p104; replace q104 := eq_true q104)))
              go_roundg k1
              case measure => have := HK1.out; omega
              case rel => exact ⟨(wrap64 (x3_1 + ((rd_T23 l0 x8_1).f1))), (wrap64 (x8_1 + 1)), (by first | rfl | (simp; done) | (simp [*]; done)), (by first | rfl | (simp; done) | (simp [*]; done)), H', ⟨by have := HK1.out; omega⟩, ⟨bh_ HB⟩⟩
            ·rw [if_neg c17] at H
             exact absurd H (by simp)
           ·rw [if_neg c16] at H
            exact absurd H (by simp)
          ·rw [if_neg c14] at H
           have c14b0 : decide (0 < x8_1) = false := decide_eq_false c14
           clear c14
           have H' := Aside0.mk H
           clear H
           have p101 : 0 ≤ (x8_1 : Int) := of_decide_eq_true (by first | (with_reducible assumption) | assumption)
           have q101 : x8_1 < (l0.length : Int) := of_decide_eq_true (by first | (with_reducible assumption) | assumption)
           obtain ⟨ad101, e101, hx101_0, hx101_1, hx101_2⟩ := at_T23 HR0.out x8_1 p101 q101
           cases e101
           replace hx101_0 := (HB.out.cell (World.block_lt_of_cell? w _ hx101_0)).trans hx101_0
           replace hx101_1 := (HB.out.cell (World.block_lt_of_cell? w _ hx101_1)).trans hx101_1
           replace hx101_2 := (HB.out.cell (World.block_lt_of_cell? w _ hx101_2)).trans hx101_2
           replace p101 := eq_true p101
           replace q101 := eq_true q101
           go_wp2_with (first | ((with_reducible refine gate_dst (N := 5) rfl ?_); refine box_e 5 #[.int .i64 0, .int .i64 0, .int .u8 0] 23 ?_; intro gb102 hg w23 hbox hb; have BK102 := Aside0.mk hbox; have GW102 := bg_ HB hg; have GE102 := bg_ HB hg; replace HB := bs_ HB hb; clear hb hbox hg; obtain ⟨hcz24_0, hcz24_1, hcz24_2, hfz24_0, hfz24_1, hfz24_2⟩ := c3_ BK102) | (go_at_call 37; (with_reducible refine (region_Is.calls ((rd_T23 l0 x8_1).f2) true _ A12.out).mono ?_); rintro e w' ⟨rfl, ⟨nd, rfl⟩⟩; (try first | exact ⟨rfl, _, World.drewN_drewN _ _ _⟩ | exact ⟨rfl, _, Eq.trans (World.drewN_drewN _ _ _) (congrArg (World.drewN _) (Nat.add_assoc _ _ _))⟩)))
           repeat (go_quiet (first | ((with_reducible refine gate_dst (N := 5) rfl ?_); refine box_e 5 #[.int .i64 0, .int .i64 0, .int .u8 0] 23 ?_; intro gb102 hg w23 hbox hb; have BK102 := Aside0.mk hbox; have GW102 := bg_ HB hg; have GE102 := bg_ HB hg; replace HB := bs_ HB hb; clear hb hbox hg; obtain ⟨hcz24_0, hcz24_1, hcz24_2, hfz24_0, hfz24_1, hfz24_2⟩ := c3_ BK102) | (go_at_call 37; (with_reducible refine (region_Is.calls ((rd_T23 l0 x8_1).f2) true _ A12.out).mono ?_); rintro e w' ⟨rfl, ⟨nd, rfl⟩⟩; (try first | exact ⟨rfl, _, World.drewN_drewN _ _ _⟩ | exact ⟨rfl, _, Eq.trans (World.drewN_drewN _ _ _) (congrArg (World.drewN _) (Nat.add_assoc _ _ _))⟩))); try go_wp2_with (first | ((with_reducible refine gate_dst (N := 5) rfl ?_); refine box_e 5 #[.int .i64 0, .int .i64 0, .int .u8 0] 23 ?_; intro gb102 hg w23 hbox hb; have BK102 := Aside0.mk hbox; have GW102 := bg_ HB hg; have GE102 := bg_ HB hg; replace HB := bs_ HB hb; clear hb hbox hg; obtain ⟨hcz24_0, hcz24_1, hcz24_2, hfz24_0, hfz24_1, hfz24_2⟩ := c3_ BK102) | (go_at_call 37; (with_reducible refine (region_Is.calls ((rd_T23 l0 x8_1).f2) true _ A12.out).mono ?_); rintro e w' ⟨rfl, ⟨nd, rfl⟩⟩; (try first | exact ⟨rfl, _, World.drewN_drewN _ _ _⟩ | exact ⟨rfl, _, Eq.trans (World.drewN_drewN _ _ _) (congrArg (World.drewN _) (Nat.add_assoc _ _ _))⟩))))
           go_roundg k1
           case measure => have := HK1.out; omega
           case rel => exact ⟨(wrap64 (x3_1 + ((rd_T23 l0 x8_1).f1))), (wrap64 (x8_1 + 1)), (by first | rfl | (simp; done) | (simp [*]; done)), (by first | rfl | (simp; done) | (simp [*]; done)), H', ⟨by have := HK1.out; omega⟩, ⟨bh_ HB⟩⟩
         ·replace c13 := Bool.eq_false_iff.mpr c13
          subst c13
          have H1 : (some false) = some r := by rw [if_neg (show ¬ (false = true) by decide)] at H; exact H
          clear H
          have H := H1
          clear H1
          obtain rfl := Option.some.inj H
          have p101 : 0 ≤ (x8_1 : Int) := of_decide_eq_true (by first | (with_reducible assumption) | assumption)
          have q101 : x8_1 < (l0.length : Int) := of_decide_eq_true (by first | (with_reducible assumption) | assumption)
          obtain ⟨ad101, e101, hx101_0, hx101_1, hx101_2⟩ := at_T23 HR0.out x8_1 p101 q101
          cases e101
          replace hx101_0 := (HB.out.cell (World.block_lt_of_cell? w _ hx101_0)).trans hx101_0
          replace hx101_1 := (HB.out.cell (World.block_lt_of_cell? w _ hx101_1)).trans hx101_1
          replace hx101_2 := (HB.out.cell (World.block_lt_of_cell? w _ hx101_2)).trans hx101_2
          replace p101 := eq_true p101
          replace q101 := eq_true q101
          go_wp2_with (first | ((with_reducible refine gate_dst (N := 5) rfl ?_); refine box_e 5 #[.int .i64 0, .int .i64 0, .int .u8 0] 23 ?_; intro gb102 hg w25 hbox hb; have BK102 := Aside0.mk hbox; have GW102 := bg_ HB hg; have GE102 := bg_ HB hg; replace HB := bs_ HB hb; clear hb hbox hg; obtain ⟨hcz26_0, hcz26_1, hcz26_2, hfz26_0, hfz26_1, hfz26_2⟩ := c3_ BK102) | (go_at_call 37; (with_reducible refine (region_Is.calls ((rd_T23 l0 x8_1).f2) false _ A12.out).mono ?_); rintro e w' ⟨rfl, ⟨nd, rfl⟩⟩; (try first | exact ⟨rfl, _, World.drewN_drewN _ _ _⟩ | exact ⟨rfl, _, Eq.trans (World.drewN_drewN _ _ _) (congrArg (World.drewN _) (Nat.add_assoc _ _ _))⟩)))
          repeat (go_quiet (first | ((with_reducible refine gate_dst (N := 5) rfl ?_); refine box_e 5 #[.int .i64 0, .int .i64 0, .int .u8 0] 23 ?_; intro gb102 hg w25 hbox hb; have BK102 := Aside0.mk hbox; have GW102 := bg_ HB hg; have GE102 := bg_ HB hg; replace HB := bs_ HB hb; clear hb hbox hg; obtain ⟨hcz26_0, hcz26_1, hcz26_2, hfz26_0, hfz26_1, hfz26_2⟩ := c3_ BK102) | (go_at_call 37; (with_reducible refine (region_Is.calls ((rd_T23 l0 x8_1).f2) false _ A12.out).mono ?_); rintro e w' ⟨rfl, ⟨nd, rfl⟩⟩; (try first | exact ⟨rfl, _, World.drewN_drewN _ _ _⟩ | exact ⟨rfl, _, Eq.trans (World.drewN_drewN _ _ _) (congrArg (World.drewN _) (Nat.add_assoc _ _ _))⟩))); try go_wp2_with (first | ((with_reducible refine gate_dst (N := 5) rfl ?_); refine box_e 5 #[.int .i64 0, .int .i64 0, .int .u8 0] 23 ?_; intro gb102 hg w25 hbox hb; have BK102 := Aside0.mk hbox; have GW102 := bg_ HB hg; have GE102 := bg_ HB hg; replace HB := bs_ HB hb; clear hb hbox hg; obtain ⟨hcz26_0, hcz26_1, hcz26_2, hfz26_0, hfz26_1, hfz26_2⟩ := c3_ BK102) | (go_at_call 37; (with_reducible refine (region_Is.calls ((rd_T23 l0 x8_1).f2) false _ A12.out).mono ?_); rintro e w' ⟨rfl, ⟨nd, rfl⟩⟩; (try first | exact ⟨rfl, _, World.drewN_drewN _ _ _⟩ | exact ⟨rfl, _, Eq.trans (World.drewN_drewN _ _ _) (congrArg (World.drewN _) (Nat.add_assoc _ _ _))⟩))))
          go_ret
          exact ⟨by first | rfl | (simp [errW_none, errW_some] <;> rfl) | (simp [*, errW_none, errW_some] <;> rfl), bh_ HB⟩
      ·rw [if_neg c5] at H
       have c5b0 : (((rd_T23 l0 x8_1).f0) == x3_1) = false := beq_eq_false_iff_ne.mpr c5
       have c5b1 : (((rd_T23 l0 x8_1).f0) != x3_1) = true := bne_iff_ne.mpr c5
       obtain rfl := Option.some.inj H
       have p101 : 0 ≤ (x8_1 : Int) := of_decide_eq_true (by first | (with_reducible assumption) | assumption)
       have q101 : x8_1 < (l0.length : Int) := of_decide_eq_true (by first | (with_reducible assumption) | assumption)
       obtain ⟨ad101, e101, hx101_0, hx101_1, hx101_2⟩ := at_T23 HR0.out x8_1 p101 q101
       cases e101
       replace hx101_0 := (HB.out.cell (World.block_lt_of_cell? w _ hx101_0)).trans hx101_0
       replace hx101_1 := (HB.out.cell (World.block_lt_of_cell? w _ hx101_1)).trans hx101_1
       replace hx101_2 := (HB.out.cell (World.block_lt_of_cell? w _ hx101_2)).trans hx101_2
       replace p101 := eq_true p101
       replace q101 := eq_true q101
       go_wp2_with (first | ((with_reducible refine gate_dst (N := 5) rfl ?_); refine box_e 5 #[.int .i64 0, .int .i64 0, .int .u8 0] 23 ?_; intro gb102 hg w27 hbox hb; have BK102 := Aside0.mk hbox; have GW102 := bg_ HB hg; have GE102 := bg_ HB hg; replace HB := bs_ HB hb; clear hb hbox hg; obtain ⟨hcz28_0, hcz28_1, hcz28_2, hfz28_0, hfz28_1, hfz28_2⟩ := c3_ BK102))
       repeat (go_quiet (first | ((with_reducible refine gate_dst (N := 5) rfl ?_); refine box_e 5 #[.int .i64 0, .int .i64 0, .int .u8 0] 23 ?_; intro gb102 hg w27 hbox hb; have BK102 := Aside0.mk hbox; have GW102 := bg_ HB hg; have GE102 := bg_ HB hg; replace HB := bs_ HB hb; clear hb hbox hg; obtain ⟨hcz28_0, hcz28_1, hcz28_2, hfz28_0, hfz28_1, hfz28_2⟩ := c3_ BK102)); try go_wp2_with (first | ((with_reducible refine gate_dst (N := 5) rfl ?_); refine box_e 5 #[.int .i64 0, .int .i64 0, .int .u8 0] 23 ?_; intro gb102 hg w27 hbox hb; have BK102 := Aside0.mk hbox; have GW102 := bg_ HB hg; have GE102 := bg_ HB hg; replace HB := bs_ HB hb; clear hb hbox hg; obtain ⟨hcz28_0, hcz28_1, hcz28_2, hfz28_0, hfz28_1, hfz28_2⟩ := c3_ BK102)))
       go_ret
       exact ⟨by first | rfl | (simp [errW_none, errW_some] <;> rfl) | (simp [*, errW_none, errW_some] <;> rfl), bh_ HB⟩
     ·rw [if_neg c4] at H
      exact absurd H (by simp)
    ·rw [if_neg c3] at H
     exact absurd H (by simp)
   ·rw [if_neg c2] at H
    have c2b0 : decide (x8_1 < (l0.length : Int)) = false := decide_eq_false c2
    clear c2
    obtain rfl := Option.some.inj H
    go_wp2
    repeat (go_quiet (fail); try go_wp2)
    go_ret
    exact ⟨by first | rfl | (simp [errW_none, errW_some] <;> rfl) | (simp [*, errW_none, errW_some] <;> rfl), bh_ HB⟩

end Go.Proofs.YtlcablcpcbmgeaaGreatDoor.P
