/- Laid by a program of this session's own (wip/wprint.py, over the kit's print.py): functions of the given program as plain Lean functions, and that the program's calls come to their answers. -/
import Derived.Test.YtnoilinjlelpaaaPx0
import Derived.Test.YtnoilinjlelpaaaPx3
import Derived.Test.YtnoilinjlelpaaaPx6
import Derived.Test.YtnoilinjlelpaaaPx7
import Derived.Test.YtnoilinjlelpaaaPx14
import Derived.Test.YtnoilinjlelpaaaPx17
namespace Go.Proofs.Ytnoilinjlelpaaa.P
open Go.RowKit Go.Proofs.YtnoilinjlelpaaaW.PrintWords Go.Proofs.YtnoilinjlelpaaaW.PrintLast Go.Proofs.YtnoilinjlelpaaaW.PrintMore
attribute [local go_sem] max2_int min2_int max_two min_two max_three min_three max_four min_four   -- for this text's walks alone
set_option linter.unusedVariables false
set_option linter.unusedSimpArgs false

/-! ### plan_Begin: function 28 -/
def plan_Begin.j0 : Nat → Bool → Int → Int → Bool → Int → Int → Int → List (S33) → Option (Int × Int × Int × (List (S33)))
  | 0, _, _, _, _, _, _, _, _ => none
  | k + 1, x14, x631000, x631001, x631002, x632000, x632001, x632002, x632003 => if x14 = true then (some (x632000, x632001, x632002, x632003)) else ((plan_edge.f k x631000 x631001 x631002 x632000 x632001 x632002 x632003).bind fun t641 => ((plan_status.f k x631000 x631001 x631002 t641 0 x632002 x632003).bind fun t642 => (some (t641, 0, t642, x632003))))
def plan_Begin.f (k : Nat) (a0_0 : Int) (a0_1 : Int) (a0_2 : Bool) (a1_0 : Int) (a1_1 : Int) (a1_2 : Int) (l1_3 : List (S33)) : Option (Int × Int × Int × (List (S33))) := (plan_copied.f a1_0 a1_1 a1_2 l1_3).bind fun bt633 => ((plan_May.f a0_0 a0_1 a0_2).bind fun t639 => (if t639 = true then ((maptext_May.f k bt633.1 bt633.2.1 bt633.2.2.1 bt633.2.2.2).bind fun t640 => (plan_Begin.j0 k (!t640) a0_0 a0_1 a0_2 bt633.1 bt633.2.1 bt633.2.2.1 bt633.2.2.2)) else (plan_Begin.j0 k true a0_0 a0_1 a0_2 bt633.1 bt633.2.1 bt633.2.2.1 bt633.2.2.2)))
theorem plan_Begin.mono_l : ∀ k, (∀ y0 y1 y2 y3 y4 y5 y6 y7, LeO (plan_Begin.j0 k y0 y1 y2 y3 y4 y5 y6 y7) (plan_Begin.j0 (k + 1) y0 y1 y2 y3 y4 y5 y6 y7))
  | 0 => fun _ _ _ _ _ _ _ _ r h => by simp [plan_Begin.j0] at h
  | k + 1 => by
    have ih0 := plan_Begin.mono_l k
    · intro y0 y1 y2 y3 y4 y5 y6 y7
      unfold plan_Begin.j0
      repeat' first
      | (with_reducible exact ih0 _ _ _ _ _ _ _ _)
      | (with_reducible exact maptext_May.mono _ _ _ _ _)
      | (with_reducible exact plan_edge.mono _ _ _ _ _ _ _ _)
      | (with_reducible exact plan_status.mono _ _ _ _ _ _ _ _)
      | (with_reducible exact LeO.refl _)
      | (with_reducible exact LeO.none _)
      | (with_reducible refine LeO.ite ?_ ?_)
      | (with_reducible refine LeO.bind ?_ (fun _ => ?_))
      | exact ih0 _ _ _ _ _ _ _ _
      | exact maptext_May.mono _ _ _ _ _
      | exact plan_edge.mono _ _ _ _ _ _ _ _
      | exact plan_status.mono _ _ _ _ _ _ _ _
      | exact LeO.none _
      | refine LeO.ite ?_ ?_
      | refine LeO.bind ?_ (fun _ => ?_)
theorem plan_Begin.mono : ∀ a0 a1 a2 a3 a4 a5 a6 k, LeO (plan_Begin.f k a0 a1 a2 a3 a4 a5 a6) (plan_Begin.f (k + 1) a0 a1 a2 a3 a4 a5 a6) := by
  intro a0 a1 a2 a3 a4 a5 a6 k
  have ih0 := plan_Begin.mono_l k
  unfold plan_Begin.f
  repeat' first
      | (with_reducible exact ih0 _ _ _ _ _ _ _ _)
      | (with_reducible exact maptext_May.mono _ _ _ _ _)
      | (with_reducible exact plan_edge.mono _ _ _ _ _ _ _ _)
      | (with_reducible exact plan_status.mono _ _ _ _ _ _ _ _)
      | (with_reducible exact LeO.refl _)
      | (with_reducible exact LeO.none _)
      | (with_reducible refine LeO.ite ?_ ?_)
      | (with_reducible refine LeO.bind ?_ (fun _ => ?_))
      | exact ih0 _ _ _ _ _ _ _ _
      | exact maptext_May.mono _ _ _ _ _
      | exact plan_edge.mono _ _ _ _ _ _ _ _
      | exact plan_status.mono _ _ _ _ _ _ _ _
      | exact LeO.none _
      | refine LeO.ite ?_ ?_
      | refine LeO.bind ?_ (fun _ => ?_)
set_option maxHeartbeats 8000000 in
set_option maxRecDepth 100000 in
theorem plan_Begin.calls (k : Nat) (a0_0 : Int) (a0_1 : Int) (a0_2 : Bool) (a1_0 : Int) (a1_1 : Int) (a1_2 : Int) (A1_3 : Option Addr) (c1_3 : Nat) (l1_3 : List (S33)) (r1 : Int) (r2 : Int) (r3 : Int) (r4 : List (S33)) (w : World) (hr1_3 : Kd.C k33 w A1_3 l1_3.length l1_3) (hc1_3 : l1_3.length ≤ c1_3) (h : plan_Begin.f k a0_0 a0_1 a0_2 a1_0 a1_1 a1_2 l1_3 = some (r1, r2, r3, r4)) :
    Calls Try.prog 28 #[.agg #[.int .i64 a0_0, .int .i64 a0_1, .bool a0_2], .agg #[.int .i64 a1_0, .int .i64 a1_1, .int .u8 a1_2, .slice A1_3 l1_3.length c1_3]] w fun e w' => ∃ v3_ : Value, e = .returned (.agg #[.int .i64 r1, .int .i64 r2, .int .u8 r3, v3_]) ∧ Kd.R k33 33 w' w.heap.size (fun _ => True) v3_ r4 ∧ Below w.heap.size w w' := by
  have hu23 := Try.underlying23
  have hu26 := Try.underlying26
  have HR1_3 := Aside0.mk hr1_3
  have HC1_3 := Aside0.mk hc1_3
  clear hr1_3 hc1_3
  have HB := Aside0.mk (Below.refl w.heap.size w)
  have H : ((plan_copied.f a1_0 a1_1 a1_2 l1_3).bind fun bt633 => ((plan_May.f a0_0 a0_1 a0_2).bind fun t639 => (if t639 = true then ((maptext_May.f k bt633.1 bt633.2.1 bt633.2.2.1 bt633.2.2.2).bind fun t640 => (plan_Begin.j0 k (!t640) a0_0 a0_1 a0_2 bt633.1 bt633.2.1 bt633.2.2.1 bt633.2.2.2)) else (plan_Begin.j0 k true a0_0 a0_1 a0_2 bt633.1 bt633.2.1 bt633.2.2.1 bt633.2.2.2)))) = some (r1, r2, r3, r4) := h
  clear h
  replace H := Option.bind_eq_some_iff.mp H
  obtain ⟨⟨t633, t634, t635, t636⟩, A30, H⟩ := H
  replace H : ((plan_May.f a0_0 a0_1 a0_2).bind fun t639 => (if t639 = true then ((maptext_May.f k t633 t634 t635 t636).bind fun t640 => (plan_Begin.j0 k (!t640) a0_0 a0_1 a0_2 t633 t634 t635 t636)) else (plan_Begin.j0 k true a0_0 a0_1 a0_2 t633 t634 t635 t636))) = some (r1, r2, r3, r4) := H
  have A3 := Aside0.mk A30
  clear A30
  have HC4 := Aside0.mk H
  clear H
  go_enter Try.func28, Try.ntmps28
  go_upto_region 2 with (first | ((with_reducible refine gate_dst (N := 2) rfl ?_); refine box_e 2 #[.int .i64 a0_0, .int .i64 a0_1, .bool a0_2] 23 ?_; intro gb630 hg w5 hbox hb; have BK630 := Aside0.mk hbox; have GW630 := bg_ HB hg; have GE630 := bg_ HB hg; replace HB := bs_ HB hb; clear hb hbox hg) | ((with_reducible refine gate_dst (N := 3) rfl ?_); refine box_e 3 #[.int .i64 a1_0, .int .i64 a1_1, .int .u8 a1_2, .slice A1_3 l1_3.length c1_3] 26 ?_; intro gb631 hg w6 hbox hb; have BK631 := Aside0.mk hbox; have GW631 := bg_ HB hg; have GE631 := bg_ HB hg; have NB630_631 := bn_ BK630 hg; have NB631_630 := bm_ BK630 hg; replace BK630 := bb_ BK630 hb; replace HB := bs_ HB hb; clear hb hbox hg) | ((with_reducible refine gate_dst (N := 4) rfl ?_); refine box_e 4 #[.int .i64 0, .int .i64 0, .int .u8 0, .slice none 0 0] 26 ?_; intro gb632 hg w7 hbox hb; have BK632 := Aside0.mk hbox; have GW632 := bg_ HB hg; have GE632 := bg_ HB hg; have NB630_632 := bn_ BK630 hg; have NB632_630 := bm_ BK630 hg; have NB631_632 := bn_ BK631 hg; have NB632_631 := bm_ BK631 hg; replace BK630 := bb_ BK630 hb; replace BK631 := bb_ BK631 hb; replace HB := bs_ HB hb; clear hb hbox hg; have hnb8 := NB631_630.out; have hnc8 := NB630_631.out; have hnb9 := NB631_632.out; have hnc9 := NB632_631.out; have hcz10_0 : w7.cell? ⟨gb631, 0, none⟩ = some (.int .i64 a1_0) := (blk_cell BK631.out 0).trans rfl; have hcz10_1 : w7.cell? ⟨gb631, 1, none⟩ = some (.int .i64 a1_1) := (blk_cell BK631.out 1).trans rfl; have hcz10_2 : w7.cell? ⟨gb631, 2, none⟩ = some (.int .u8 a1_2) := (blk_cell BK631.out 2).trans rfl; have hcz10_3 : w7.cell? ⟨gb631, 3, none⟩ = some (.slice A1_3 l1_3.length c1_3) := (blk_cell BK631.out 3).trans rfl; have hfz10_0 := blk_frozen BK631.out 0; have hfz10_1 := blk_frozen BK631.out 1; have hfz10_2 := blk_frozen BK631.out 2; have hfz10_3 := blk_frozen BK631.out 3) | ((with_reducible refine gate_callee (f := 36) rfl ?_); refine gl_ (some 6) rfl rfl Try.func36 (by kernel_rfl) rfl #[.agg #[.int .i64 a1_0, .int .i64 a1_1, .int .u8 a1_2, .slice A1_3 l1_3.length c1_3]] rfl ?_; (with_reducible refine (plan_copied.calls a1_0 a1_1 a1_2 _ _ l1_3 t633 t634 t635 t636 _ ?side1 ?side2 A3.out).mono ?_); (case side1 => exact cb_ HR1_3 HB); (case side2 => exact HC1_3.out); rintro e w11 ⟨v637, rfl, ho0, hb⟩; refine ⟨_, rfl, ?_⟩; have HO638 := Aside0.mk (Kd.R_lower ho0 (below_size (bh_ HB))); replace BK630 := bb_ BK630 hb; replace BK631 := bb_ BK631 hb; replace BK632 := bb_ BK632 hb; replace HB := bs_ HB hb; (try clear hb); (try clear hb2); (try clear hk); (try clear hi); (try clear ho0); have hcz12_0 : w11.cell? ⟨gb631, 0, none⟩ = some (.int .i64 a1_0) := (blk_cell BK631.out 0).trans rfl; have hcz12_1 : w11.cell? ⟨gb631, 1, none⟩ = some (.int .i64 a1_1) := (blk_cell BK631.out 1).trans rfl; have hcz12_2 : w11.cell? ⟨gb631, 2, none⟩ = some (.int .u8 a1_2) := (blk_cell BK631.out 2).trans rfl; have hcz12_3 : w11.cell? ⟨gb631, 3, none⟩ = some (.slice A1_3 l1_3.length c1_3) := (blk_cell BK631.out 3).trans rfl; have hfz12_0 := blk_frozen BK631.out 0; have hfz12_1 := blk_frozen BK631.out 1; have hfz12_2 := blk_frozen BK631.out 2; have hfz12_3 := blk_frozen BK631.out 3; obtain ⟨Ao13, co13, eo13⟩ := Kd.R_slice HO638.out; subst eo13))
  (try simp only [Act.put, List.setIfInBounds_toArray, List.set_cons_zero, List.set_cons_succ])
  go_cut [14] (fun v14 wc => ∃ (kq : Nat) (x14_3 : Bool), v14 = .bool x14_3 ∧ Aside0 (plan_Begin.j0 kq x14_3 a0_0 a0_1 a0_2 t633 t634 t635 t636 = some (r1, r2, r3, r4)) ∧ Aside0 (kq ≤ k) ∧ Aside0 (Kd.R k33 33 wc w.heap.size (fun _ => True) (.slice Ao13 t636.length co13) t636) ∧ Aside0 (wc.heap[gb630]? = some (.cells #[.int .i64 a0_0, .int .i64 a0_1, .bool a0_2] 23 (0, 0))) ∧ Aside0 (wc.heap[gb631]? = some (.cells #[.int .i64 t633, .int .i64 t634, .int .u8 t635, (.slice Ao13 t636.length co13)] 26 (0, 0))) ∧ Aside0 (wc.heap[gb632]? = some (.cells #[.int .i64 0, .int .i64 0, .int .u8 0, (.slice none 0 0)] 26 (0, 0))) ∧ Aside0 (Below w.heap.size w wc))
  case first =>
    have H := HC4.out
    clear HC4
    replace H := Option.bind_eq_some_iff.mp H
    obtain ⟨t639, A140, H⟩ := H
    replace H : (if t639 = true then ((maptext_May.f k t633 t634 t635 t636).bind fun t640 => (plan_Begin.j0 k (!t640) a0_0 a0_1 a0_2 t633 t634 t635 t636)) else (plan_Begin.j0 k true a0_0 a0_1 a0_2 t633 t634 t635 t636)) = some (r1, r2, r3, r4) := H
    have A14 := Aside0.mk A140
    clear A140
    by_cases c15 : t639 = true
    · subst c15
      have H1 : ((maptext_May.f k t633 t634 t635 t636).bind fun t640 => (plan_Begin.j0 k (!t640) a0_0 a0_1 a0_2 t633 t634 t635 t636)) = some (r1, r2, r3, r4) := by rw [if_pos rfl] at H; exact H
      clear H
      have H := H1
      clear H1
      replace H := Option.bind_eq_some_iff.mp H
      obtain ⟨t640, A160, H⟩ := H
      replace H : (plan_Begin.j0 k (!t640) a0_0 a0_1 a0_2 t633 t634 t635 t636) = some (r1, r2, r3, r4) := H
      have A16 := Aside0.mk A160
      clear A160
      have H' := Aside0.mk H
      clear H
      have hnb17 := NB630_631.out
      have hnc17 := NB631_630.out
      have hnb18 := NB630_632.out
      have hnc18 := NB632_630.out
      have hcz19_0 : w11.cell? ⟨gb630, 0, none⟩ = some (.int .i64 a0_0) := (blk_cell BK630.out 0).trans rfl
      have hcz19_1 : w11.cell? ⟨gb630, 1, none⟩ = some (.int .i64 a0_1) := (blk_cell BK630.out 1).trans rfl
      have hcz19_2 : w11.cell? ⟨gb630, 2, none⟩ = some (.bool a0_2) := (blk_cell BK630.out 2).trans rfl
      have hfz19_0 := blk_frozen BK630.out 0
      have hfz19_1 := blk_frozen BK630.out 1
      have hfz19_2 := blk_frozen BK630.out 2
      go_wp2_with (first | ((with_reducible refine gate_callee (f := 14) rfl ?_); refine gl_ (some 8) rfl rfl Try.func14 (by kernel_rfl) rfl #[.agg #[.int .i64 a0_0, .int .i64 a0_1, .bool a0_2]] rfl ?_; (with_reducible refine (plan_May.calls a0_0 a0_1 a0_2 true _ A14.out).mono ?_); rintro e w20 ⟨rfl, hb⟩; refine ⟨_, rfl, ?_⟩; have n0_ := Aside0.mk (Kd.R_below (by (with_reducible repeat (first | apply Kd.R_alloc | apply Kd.R_drewN | apply Kd.R_drew)); exact (Kd.R_mono (Kd.R_far (p := ⟨gb631, 3, none⟩) (Kd.R_far (p := ⟨gb631, 2, none⟩) (Kd.R_far (p := ⟨gb631, 1, none⟩) (Kd.R_far (p := ⟨gb631, 0, none⟩) (Kd.R_types HO638.out BK631.out (by decide)) (fun _ hk => hk.2) (.int .i64 t633)) (fun _ hk => hk.2) (.int .i64 t634)) (fun _ hk => hk.2) (.int .u8 t635)) (fun _ hk => hk.2) (.slice Ao13 t636.length co13)) (fun _ h_ => h_.1))) hb); have n1_ := Aside0.mk (blk_below (g := gb630) (o := .cells #[.int .i64 a0_0, .int .i64 a0_1, .bool a0_2] 23 (0, 0)) (bp_ BK630) hb); have n2_ := Aside0.mk (blk_below (g := gb631) (o := .cells #[.int .i64 t633, .int .i64 t634, .int .u8 t635, .slice Ao13 t636.length co13] 26 (0, 0)) (bp_ BK631) hb); have n3_ := Aside0.mk (blk_below (g := gb632) (o := .cells #[.int .i64 0, .int .i64 0, .int .u8 0, .slice none 0 0] 26 (0, 0)) (bp_ BK632) hb); have n4_ := bs_ HB hb; clear HO638; clear BK630; clear BK631; clear BK632; clear HB; have HO638 := n0_; have BK630 := n1_; have BK631 := n2_; have BK632 := n3_; have HB := n4_; clear n0_ n1_ n2_ n3_ n4_; (try clear hb); (try clear hb2); (try clear hk); (try clear hi); have hnb21 := NB631_632.out; have hnc21 := NB632_631.out; have hcz22_0 : w20.cell? ⟨gb631, 0, none⟩ = some (.int .i64 t633) := (blk_cell BK631.out 0).trans rfl; have hcz22_1 : w20.cell? ⟨gb631, 1, none⟩ = some (.int .i64 t634) := (blk_cell BK631.out 1).trans rfl; have hcz22_2 : w20.cell? ⟨gb631, 2, none⟩ = some (.int .u8 t635) := (blk_cell BK631.out 2).trans rfl; have hcz22_3 : w20.cell? ⟨gb631, 3, none⟩ = some (.slice Ao13 t636.length co13) := (blk_cell BK631.out 3).trans rfl; have hfz22_0 := blk_frozen BK631.out 0; have hfz22_1 := blk_frozen BK631.out 1; have hfz22_2 := blk_frozen BK631.out 2; have hfz22_3 := blk_frozen BK631.out 3) | (go_at_call 18; (with_reducible refine (maptext_May.calls k t633 t634 t635 _ _ t636 t640 _ ?side1 ?side2 A16.out).mono ?_); (case side1 => repeat (first | exact (Kd.R_reads' HO638.out).2.2 | (with_reducible refine Kd.C_alloc ?_ _) | (with_reducible refine Kd.C_drewN ?_ _) | (with_reducible refine Kd.C_drew ?_))); (case side2 => exact (Kd.R_reads' HO638.out).2.1); rintro e w23 ⟨rfl, hb⟩; have n0_ := Aside0.mk (Kd.R_below (by (with_reducible repeat (first | apply Kd.R_alloc | apply Kd.R_drewN | apply Kd.R_drew)); exact HO638.out) hb); have n1_ := bb_ BK630 hb; have n2_ := bb_ BK631 hb; have n3_ := bb_ BK632 hb; have n4_ := bs_ HB hb; clear HO638; clear BK630; clear BK631; clear BK632; clear HB; have HO638 := n0_; have BK630 := n1_; have BK631 := n2_; have BK632 := n3_; have HB := n4_; clear n0_ n1_ n2_ n3_ n4_; (try clear hb); (try clear hb2); (try clear hk); (try clear hi)))
      go_meet
      case rel => exact ⟨_, (!t640), (by first | rfl | (simp; done) | (simp [*]; done)), H', ⟨by first | omega | exact Nat.le_refl _⟩, ⟨by (with_reducible repeat (first | apply Kd.R_alloc | apply Kd.R_drewN | apply Kd.R_drew)); exact HO638.out⟩, ⟨by (with_reducible repeat (first | refine blk_drewN ?_ _ | refine blk_drew ?_ | refine blk_alloc ?_ _)); exact BK630.out⟩, ⟨by (with_reducible repeat (first | refine blk_drewN ?_ _ | refine blk_drew ?_ | refine blk_alloc ?_ _)); exact BK631.out⟩, ⟨by (with_reducible repeat (first | refine blk_drewN ?_ _ | refine blk_drew ?_ | refine blk_alloc ?_ _)); exact BK632.out⟩, ⟨by repeat (first | (with_reducible first | exact HB.out | apply below_alloc | apply pw_below_drewN | apply below_drew1 | refine below_set ?_ GE630.out | refine below_set ?_ GE631.out | refine below_set ?_ GE632.out) | exact HB.out)⟩⟩
    · replace c15 := Bool.eq_false_iff.mpr c15
      subst c15
      have H1 : (plan_Begin.j0 k true a0_0 a0_1 a0_2 t633 t634 t635 t636) = some (r1, r2, r3, r4) := by rw [if_neg (show ¬ (false = true) by decide)] at H; exact H
      clear H
      have H := H1
      clear H1
      have H' := Aside0.mk H
      clear H
      have hnb24 := NB630_631.out
      have hnc24 := NB631_630.out
      have hnb25 := NB630_632.out
      have hnc25 := NB632_630.out
      have hcz26_0 : w11.cell? ⟨gb630, 0, none⟩ = some (.int .i64 a0_0) := (blk_cell BK630.out 0).trans rfl
      have hcz26_1 : w11.cell? ⟨gb630, 1, none⟩ = some (.int .i64 a0_1) := (blk_cell BK630.out 1).trans rfl
      have hcz26_2 : w11.cell? ⟨gb630, 2, none⟩ = some (.bool a0_2) := (blk_cell BK630.out 2).trans rfl
      have hfz26_0 := blk_frozen BK630.out 0
      have hfz26_1 := blk_frozen BK630.out 1
      have hfz26_2 := blk_frozen BK630.out 2
      go_wp2_with (first | ((with_reducible refine gate_callee (f := 14) rfl ?_); refine gl_ (some 8) rfl rfl Try.func14 (by kernel_rfl) rfl #[.agg #[.int .i64 a0_0, .int .i64 a0_1, .bool a0_2]] rfl ?_; (with_reducible refine (plan_May.calls a0_0 a0_1 a0_2 false _ A14.out).mono ?_); rintro e w27 ⟨rfl, hb⟩; refine ⟨_, rfl, ?_⟩; have n0_ := Aside0.mk (Kd.R_below (by (with_reducible repeat (first | apply Kd.R_alloc | apply Kd.R_drewN | apply Kd.R_drew)); exact (Kd.R_mono (Kd.R_far (p := ⟨gb631, 3, none⟩) (Kd.R_far (p := ⟨gb631, 2, none⟩) (Kd.R_far (p := ⟨gb631, 1, none⟩) (Kd.R_far (p := ⟨gb631, 0, none⟩) (Kd.R_types HO638.out BK631.out (by decide)) (fun _ hk => hk.2) (.int .i64 t633)) (fun _ hk => hk.2) (.int .i64 t634)) (fun _ hk => hk.2) (.int .u8 t635)) (fun _ hk => hk.2) (.slice Ao13 t636.length co13)) (fun _ h_ => h_.1))) hb); have n1_ := Aside0.mk (blk_below (g := gb630) (o := .cells #[.int .i64 a0_0, .int .i64 a0_1, .bool a0_2] 23 (0, 0)) (bp_ BK630) hb); have n2_ := Aside0.mk (blk_below (g := gb631) (o := .cells #[.int .i64 t633, .int .i64 t634, .int .u8 t635, .slice Ao13 t636.length co13] 26 (0, 0)) (bp_ BK631) hb); have n3_ := Aside0.mk (blk_below (g := gb632) (o := .cells #[.int .i64 0, .int .i64 0, .int .u8 0, .slice none 0 0] 26 (0, 0)) (bp_ BK632) hb); have n4_ := bs_ HB hb; clear HO638; clear BK630; clear BK631; clear BK632; clear HB; have HO638 := n0_; have BK630 := n1_; have BK631 := n2_; have BK632 := n3_; have HB := n4_; clear n0_ n1_ n2_ n3_ n4_; (try clear hb); (try clear hb2); (try clear hk); (try clear hi)))
      go_meet
      case rel => exact ⟨_, (true), (by first | rfl | (simp; done) | (simp [*]; done)), H', ⟨by first | omega | exact Nat.le_refl _⟩, ⟨by (with_reducible repeat (first | apply Kd.R_alloc | apply Kd.R_drewN | apply Kd.R_drew)); exact HO638.out⟩, ⟨by (with_reducible repeat (first | refine blk_drewN ?_ _ | refine blk_drew ?_ | refine blk_alloc ?_ _)); exact BK630.out⟩, ⟨by (with_reducible repeat (first | refine blk_drewN ?_ _ | refine blk_drew ?_ | refine blk_alloc ?_ _)); exact BK631.out⟩, ⟨by (with_reducible repeat (first | refine blk_drewN ?_ _ | refine blk_drew ?_ | refine blk_alloc ?_ _)); exact BK632.out⟩, ⟨by repeat (first | (with_reducible first | exact HB.out | apply below_alloc | apply pw_below_drewN | apply below_drew1 | refine below_set ?_ GE630.out | refine below_set ?_ GE631.out | refine below_set ?_ GE632.out) | exact HB.out)⟩⟩
  case rest =>
    clear HC4
    try clear c1
    try clear c2
    try clear p2
    try clear c3
    try clear c8
    try clear c9
    try clear c14
    try clear c15
    try clear c17
    try clear c18
    try clear c21
    try clear c24
    try clear c25
    try clear hcz10_0
    try clear hcz10_1
    try clear hcz10_2
    try clear hcz10_3
    try clear hcz12_0
    try clear hcz12_1
    try clear hcz12_2
    try clear hcz12_3
    try clear hcz19_0
    try clear hcz19_1
    try clear hcz19_2
    try clear hcz22_0
    try clear hcz22_1
    try clear hcz22_2
    try clear hcz22_3
    try clear hcz26_0
    try clear hcz26_1
    try clear hcz26_2
    try clear hfz10_0
    try clear hfz10_1
    try clear hfz10_2
    try clear hfz10_3
    try clear hfz12_0
    try clear hfz12_1
    try clear hfz12_2
    try clear hfz12_3
    try clear hfz19_0
    try clear hfz19_1
    try clear hfz19_2
    try clear hfz22_0
    try clear hfz22_1
    try clear hfz22_2
    try clear hfz22_3
    try clear hfz26_0
    try clear hfz26_1
    try clear hfz26_2
    obtain ⟨kq, x14_3, rfl, HA, HJ3, HO_632003, BK630, BK631, BK632, HB⟩ := hcut
    cases kq with
    | zero => exact absurd HA.out (by simp [plan_Begin.j0])
    | succ kj3 =>
      have H := HA.out
      clear HA
      simp only [plan_Begin.j0] at H
      by_cases c28 : x14_3 = true
      · subst c28
        have H1 : (some (t633, t634, t635, t636)) = some (r1, r2, r3, r4) := by rw [if_pos rfl] at H; exact H
        clear H
        have H := H1
        clear H1
        simp only [Option.some.injEq, Prod.mk.injEq] at H
        obtain ⟨rfl, rfl, rfl, rfl⟩ := H
        have hnb29 := NB631_630.out
        have hnc29 := NB630_631.out
        have hnb30 := NB631_632.out
        have hnc30 := NB632_631.out
        have hcz31_0 : wc.cell? ⟨gb631, 0, none⟩ = some (.int .i64 t633) := (blk_cell BK631.out 0).trans rfl
        have hcz31_1 : wc.cell? ⟨gb631, 1, none⟩ = some (.int .i64 t634) := (blk_cell BK631.out 1).trans rfl
        have hcz31_2 : wc.cell? ⟨gb631, 2, none⟩ = some (.int .u8 t635) := (blk_cell BK631.out 2).trans rfl
        have hcz31_3 : wc.cell? ⟨gb631, 3, none⟩ = some (.slice Ao13 t636.length co13) := (blk_cell BK631.out 3).trans rfl
        have hfz31_0 := blk_frozen BK631.out 0
        have hfz31_1 := blk_frozen BK631.out 1
        have hfz31_2 := blk_frozen BK631.out 2
        have hfz31_3 := blk_frozen BK631.out 3
        have hnb32 := NB632_630.out
        have hnc32 := NB630_632.out
        have hcz33_0 : wc.cell? ⟨gb632, 0, none⟩ = some (.int .i64 0) := (blk_cell BK632.out 0).trans rfl
        have hcz33_1 : wc.cell? ⟨gb632, 1, none⟩ = some (.int .i64 0) := (blk_cell BK632.out 1).trans rfl
        have hcz33_2 : wc.cell? ⟨gb632, 2, none⟩ = some (.int .u8 0) := (blk_cell BK632.out 2).trans rfl
        have hcz33_3 : wc.cell? ⟨gb632, 3, none⟩ = some (.slice none 0 0) := (blk_cell BK632.out 3).trans rfl
        have hfz33_0 := blk_frozen BK632.out 0
        have hfz33_1 := blk_frozen BK632.out 1
        have hfz33_2 := blk_frozen BK632.out 2
        have hfz33_3 := blk_frozen BK632.out 3
        go_wp2
        refine bodyPost_ret (results_cell_row rfl _ _ gb632 26 #[.int .i64 t633, .int .i64 t634, .int .u8 t635, .slice Ao13 t636.length co13] (0, 0) _ rfl (bp_ BK632) Try.underlying26 rfl (by kernel_rfl)) rfl ?_
        exact ⟨_, by first | rfl | (simp [errW_none, errW_some] <;> rfl) | (simp [*, errW_none, errW_some] <;> rfl), by (with_reducible repeat (first | apply Kd.R_alloc | apply Kd.R_drewN | apply Kd.R_drew)); exact Kd.R_mono (Kd.R_far (p := ⟨gb632, 3, none⟩) (Kd.R_far (p := ⟨gb632, 2, none⟩) (Kd.R_far (p := ⟨gb632, 1, none⟩) (Kd.R_far (p := ⟨gb632, 0, none⟩) (Kd.R_types HO_632003.out BK632.out (by decide)) (fun _ hk => hk.2) (.int .i64 t633)) (fun _ hk => hk.2) (.int .i64 t634)) (fun _ hk => hk.2) (.int .u8 t635)) (fun _ hk => hk.2) (.slice Ao13 t636.length co13)) (fun _ hk => trivial), bh_ HB⟩
      · replace c28 := Bool.eq_false_iff.mpr c28
        subst c28
        have H1 : ((plan_edge.f kj3 a0_0 a0_1 a0_2 t633 t634 t635 t636).bind fun t641 => ((plan_status.f kj3 a0_0 a0_1 a0_2 t641 0 t635 t636).bind fun t642 => (some (t641, 0, t642, t636)))) = some (r1, r2, r3, r4) := by rw [if_neg (show ¬ (false = true) by decide)] at H; exact H
        clear H
        have H := H1
        clear H1
        replace H := Option.bind_eq_some_iff.mp H
        obtain ⟨t641, A340, H⟩ := H
        replace H : ((plan_status.f kj3 a0_0 a0_1 a0_2 t641 0 t635 t636).bind fun t642 => (some (t641, 0, t642, t636))) = some (r1, r2, r3, r4) := H
        have A34 := Aside0.mk A340
        clear A340
        replace H := Option.bind_eq_some_iff.mp H
        obtain ⟨t642, A350, H⟩ := H
        replace H : (some (t641, 0, t642, t636)) = some (r1, r2, r3, r4) := H
        have A35 := Aside0.mk A350
        clear A350
        simp only [Option.some.injEq, Prod.mk.injEq] at H
        obtain ⟨rfl, rfl, rfl, rfl⟩ := H
        have hnb36 := NB630_631.out
        have hnc36 := NB631_630.out
        have hnb37 := NB630_632.out
        have hnc37 := NB632_630.out
        have hcz38_0 : wc.cell? ⟨gb630, 0, none⟩ = some (.int .i64 a0_0) := (blk_cell BK630.out 0).trans rfl
        have hcz38_1 : wc.cell? ⟨gb630, 1, none⟩ = some (.int .i64 a0_1) := (blk_cell BK630.out 1).trans rfl
        have hcz38_2 : wc.cell? ⟨gb630, 2, none⟩ = some (.bool a0_2) := (blk_cell BK630.out 2).trans rfl
        have hfz38_0 := blk_frozen BK630.out 0
        have hfz38_1 := blk_frozen BK630.out 1
        have hfz38_2 := blk_frozen BK630.out 2
        have hnb39 := NB631_632.out
        have hnc39 := NB632_631.out
        have hcz40_0 : wc.cell? ⟨gb631, 0, none⟩ = some (.int .i64 t633) := (blk_cell BK631.out 0).trans rfl
        have hcz40_1 : wc.cell? ⟨gb631, 1, none⟩ = some (.int .i64 t634) := (blk_cell BK631.out 1).trans rfl
        have hcz40_2 : wc.cell? ⟨gb631, 2, none⟩ = some (.int .u8 t635) := (blk_cell BK631.out 2).trans rfl
        have hcz40_3 : wc.cell? ⟨gb631, 3, none⟩ = some (.slice Ao13 t636.length co13) := (blk_cell BK631.out 3).trans rfl
        have hfz40_0 := blk_frozen BK631.out 0
        have hfz40_1 := blk_frozen BK631.out 1
        have hfz40_2 := blk_frozen BK631.out 2
        have hfz40_3 := blk_frozen BK631.out 3
        go_wp2_with (first | ((with_reducible refine gate_callee (f := 51) rfl ?_); refine gl_ (some 18) rfl rfl Try.func51 (by kernel_rfl) rfl #[.agg #[.int .i64 a0_0, .int .i64 a0_1, .bool a0_2], .agg #[.int .i64 t633, .int .i64 t634, .int .u8 t635, .slice Ao13 t636.length co13]] rfl ?_; (with_reducible refine (plan_edge.calls kj3 a0_0 a0_1 a0_2 t633 t634 t635 _ _ t636 t641 _ ?side1 ?side2 A34.out).mono ?_); (case side1 => repeat (first | exact (Kd.R_reads' HO_632003.out).2.2 | (with_reducible refine Kd.C_alloc ?_ _) | (with_reducible refine Kd.C_drewN ?_ _) | (with_reducible refine Kd.C_drew ?_))); (case side2 => exact (Kd.R_reads' HO_632003.out).2.1); rintro e w41 ⟨rfl, hb⟩; refine ⟨_, rfl, ?_⟩; have n0_ := Aside0.mk (Kd.R_below (by (with_reducible repeat (first | apply Kd.R_alloc | apply Kd.R_drewN | apply Kd.R_drew)); exact HO_632003.out) hb); have n1_ := bb_ BK630 hb; have n2_ := bb_ BK631 hb; have n3_ := bb_ BK632 hb; have n4_ := bs_ HB hb; clear HO_632003; clear BK630; clear BK631; clear BK632; clear HB; have HO_632003 := n0_; have BK630 := n1_; have BK631 := n2_; have BK632 := n3_; have HB := n4_; clear n0_ n1_ n2_ n3_ n4_; (try clear hb); (try clear hb2); (try clear hk); (try clear hi); have hcz42_0 : w41.cell? ⟨gb631, 0, none⟩ = some (.int .i64 t633) := (blk_cell BK631.out 0).trans rfl; have hcz42_1 : w41.cell? ⟨gb631, 1, none⟩ = some (.int .i64 t634) := (blk_cell BK631.out 1).trans rfl; have hcz42_2 : w41.cell? ⟨gb631, 2, none⟩ = some (.int .u8 t635) := (blk_cell BK631.out 2).trans rfl; have hcz42_3 : w41.cell? ⟨gb631, 3, none⟩ = some (.slice Ao13 t636.length co13) := (blk_cell BK631.out 3).trans rfl; have hfz42_0 := blk_frozen BK631.out 0; have hfz42_1 := blk_frozen BK631.out 1; have hfz42_2 := blk_frozen BK631.out 2; have hfz42_3 := blk_frozen BK631.out 3; have hcz43_0 : w41.cell? ⟨gb630, 0, none⟩ = some (.int .i64 a0_0) := (blk_cell BK630.out 0).trans rfl; have hcz43_1 : w41.cell? ⟨gb630, 1, none⟩ = some (.int .i64 a0_1) := (blk_cell BK630.out 1).trans rfl; have hcz43_2 : w41.cell? ⟨gb630, 2, none⟩ = some (.bool a0_2) := (blk_cell BK630.out 2).trans rfl; have hfz43_0 := blk_frozen BK630.out 0; have hfz43_1 := blk_frozen BK630.out 1; have hfz43_2 := blk_frozen BK630.out 2) | ((with_reducible refine gate_callee (f := 38) rfl ?_); refine gl_ (some 23) rfl rfl Try.func38 (by kernel_rfl) rfl #[.agg #[.int .i64 a0_0, .int .i64 a0_1, .bool a0_2], .agg #[.int .i64 t641, .int .i64 0, .int .u8 t635, .slice Ao13 t636.length co13]] rfl ?_; (with_reducible refine (plan_status.calls kj3 a0_0 a0_1 a0_2 t641 0 t635 _ _ t636 t642 _ ?side1 ?side2 A35.out).mono ?_); (case side1 => refine (Kd.R_reads' (e := 33) (base := w.heap.size) (ok := fun k_ => True) (n := t636.length) (c := co13) ?_).2.2; exact (by (with_reducible repeat (first | apply Kd.R_alloc | apply Kd.R_drewN | apply Kd.R_drew)); exact (Kd.R_mono (Kd.R_far (p := ⟨gb631, 0, none⟩) (Kd.R_far (p := ⟨gb631, 1, none⟩) (Kd.R_types HO_632003.out BK631.out (by decide)) (fun _ hk => hk.2) (.int .i64 0)) (fun _ hk => hk.2) (.int .i64 t641)) (fun _ h_ => h_.1)))); (case side2 => exact (Kd.R_reads' HO_632003.out).2.1); rintro e w44 ⟨rfl, hb⟩; refine ⟨_, rfl, ?_⟩; have n0_ := Aside0.mk (Kd.R_below (by (with_reducible repeat (first | apply Kd.R_alloc | apply Kd.R_drewN | apply Kd.R_drew)); exact (Kd.R_mono (Kd.R_far (p := ⟨gb631, 0, none⟩) (Kd.R_far (p := ⟨gb631, 1, none⟩) (Kd.R_types HO_632003.out BK631.out (by decide)) (fun _ hk => hk.2) (.int .i64 0)) (fun _ hk => hk.2) (.int .i64 t641)) (fun _ h_ => h_.1))) hb); have n1_ := Aside0.mk (blk_below (g := gb630) (o := .cells #[.int .i64 a0_0, .int .i64 a0_1, .bool a0_2] 23 (0, 0)) (bp_ BK630) hb); have n2_ := Aside0.mk (blk_below (g := gb631) (o := .cells #[.int .i64 t641, .int .i64 0, .int .u8 t635, .slice Ao13 t636.length co13] 26 (0, 0)) (bp_ BK631) hb); have n3_ := Aside0.mk (blk_below (g := gb632) (o := .cells #[.int .i64 0, .int .i64 0, .int .u8 0, .slice none 0 0] 26 (0, 0)) (bp_ BK632) hb); have n4_ := bs_ HB hb; clear HO_632003; clear BK630; clear BK631; clear BK632; clear HB; have HO_632003 := n0_; have BK630 := n1_; have BK631 := n2_; have BK632 := n3_; have HB := n4_; clear n0_ n1_ n2_ n3_ n4_; (try clear hb); (try clear hb2); (try clear hk); (try clear hi); have hcz45_0 : w44.cell? ⟨gb631, 0, none⟩ = some (.int .i64 t641) := (blk_cell BK631.out 0).trans rfl; have hcz45_1 : w44.cell? ⟨gb631, 1, none⟩ = some (.int .i64 0) := (blk_cell BK631.out 1).trans rfl; have hcz45_2 : w44.cell? ⟨gb631, 2, none⟩ = some (.int .u8 t635) := (blk_cell BK631.out 2).trans rfl; have hcz45_3 : w44.cell? ⟨gb631, 3, none⟩ = some (.slice Ao13 t636.length co13) := (blk_cell BK631.out 3).trans rfl; have hfz45_0 := blk_frozen BK631.out 0; have hfz45_1 := blk_frozen BK631.out 1; have hfz45_2 := blk_frozen BK631.out 2; have hfz45_3 := blk_frozen BK631.out 3; have hcz46_0 : w44.cell? ⟨gb632, 0, none⟩ = some (.int .i64 0) := (blk_cell BK632.out 0).trans rfl; have hcz46_1 : w44.cell? ⟨gb632, 1, none⟩ = some (.int .i64 0) := (blk_cell BK632.out 1).trans rfl; have hcz46_2 : w44.cell? ⟨gb632, 2, none⟩ = some (.int .u8 0) := (blk_cell BK632.out 2).trans rfl; have hcz46_3 : w44.cell? ⟨gb632, 3, none⟩ = some (.slice none 0 0) := (blk_cell BK632.out 3).trans rfl; have hfz46_0 := blk_frozen BK632.out 0; have hfz46_1 := blk_frozen BK632.out 1; have hfz46_2 := blk_frozen BK632.out 2; have hfz46_3 := blk_frozen BK632.out 3))
        refine bodyPost_ret (results_cell_row rfl _ _ gb632 26 #[.int .i64 t641, .int .i64 0, .int .u8 t642, .slice Ao13 t636.length co13] (0, 0) _ rfl (bp_ BK632) Try.underlying26 rfl (by kernel_rfl)) rfl ?_
        exact ⟨_, by first | rfl | (simp [errW_none, errW_some] <;> rfl) | (simp [*, errW_none, errW_some] <;> rfl), by (with_reducible repeat (first | apply Kd.R_alloc | apply Kd.R_drewN | apply Kd.R_drew)); exact Kd.R_mono (Kd.R_far (p := ⟨gb632, 3, none⟩) (Kd.R_far (p := ⟨gb632, 2, none⟩) (Kd.R_far (p := ⟨gb632, 1, none⟩) (Kd.R_far (p := ⟨gb632, 0, none⟩) (Kd.R_far (p := ⟨gb631, 2, none⟩) (Kd.R_types (Kd.R_types HO_632003.out BK631.out (by decide)) BK632.out (by decide)) (fun _ hk => hk.1.2) (.int .u8 t642)) (fun _ hk => hk.2) (.int .i64 t641)) (fun _ hk => hk.2) (.int .i64 0)) (fun _ hk => hk.2) (.int .u8 t642)) (fun _ hk => hk.2) (.slice Ao13 t636.length co13)) (fun _ hk => trivial), bh_ HB⟩

end Go.Proofs.Ytnoilinjlelpaaa.P
