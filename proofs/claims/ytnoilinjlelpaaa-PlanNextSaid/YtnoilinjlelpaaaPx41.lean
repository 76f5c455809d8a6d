/- Laid by a program of this session's own (wip/wprint.py, over the kit's print.py): functions of the given program as plain Lean functions, and that the program's calls come to their answers. -/
import Derived.Test.YtnoilinjlelpaaaPx0
import Derived.Test.YtnoilinjlelpaaaPx20
import Derived.Test.YtnoilinjlelpaaaPx21
import Derived.Test.YtnoilinjlelpaaaPx24
import Derived.Test.YtnoilinjlelpaaaPx25
import Derived.Test.YtnoilinjlelpaaaPx33
namespace Go.Proofs.Ytnoilinjlelpaaa.P
open Go.RowKit Go.Proofs.YtnoilinjlelpaaaW.PrintWords Go.Proofs.YtnoilinjlelpaaaW.PrintLast Go.Proofs.YtnoilinjlelpaaaW.PrintMore
attribute [local go_sem] max2_int min2_int max_two min_two max_three min_three max_four min_four   -- for this text's walks alone
set_option linter.unusedVariables false
set_option linter.unusedSimpArgs false

/-! ### salvorref16_Begin: function 29 -/
mutual
def salvorref16_Begin.j0 : Nat → Bool → Int → Int → Bool → Int → Int → Int → List (S33) → Option (Int × Int × Int × (List (S33)))
 | 0, _, _, _, _, _, _, _, _ => none
 | k + 1, x14, x644000, x644001, x644002, x645000, x645001, x645002, x645003 => if x14 = true then (some (x645000, x645001, x645002, x645003)) else (salvorref16_Begin.j1 k x644000 x644001 x644002 x645000 x645001 x645002 x645003)
def salvorref16_Begin.j1 : Nat → Int → Int → Bool → Int → Int → Int → List (S33) → Option (Int × Int × Int × (List (S33)))
 | 0, _, _, _, _, _, _, _ => none
 | k + 1, x644000, x644001, x644002, x645000, x645001, x645002, x645003 => (salvorref16_begin.f k x644000 x644001 x644002 x645003).bind fun t654 => ((salvorref16_told.f k x644000 x644001 x644002 t654 0 x645002 x645003).bind fun bt655 => (some (bt655.1, bt655.2.1, bt655.2.2.1, bt655.2.2.2)))
end
def salvorref16_Begin.f (k : Nat) (a0_0 : Int) (a0_1 : Int) (a0_2 : Bool) (a1_0 : Int) (a1_1 : Int) (a1_2 : Int) (l1_3 : List (S33)) : Option (Int × Int × Int × (List (S33))) := (salvorref16_CopyMap.f a1_0 a1_1 a1_2 l1_3).bind fun bt646 => ((salvorref16_MayOpts.f a0_0 a0_1 a0_2).bind fun t652 => (if t652 = true then ((salvorref16_MayMap.f k bt646.1 bt646.2.1 bt646.2.2.1 bt646.2.2.2).bind fun t653 => (salvorref16_Begin.j0 k (!t653) a0_0 a0_1 a0_2 bt646.1 bt646.2.1 bt646.2.2.1 bt646.2.2.2)) else (salvorref16_Begin.j0 k true a0_0 a0_1 a0_2 bt646.1 bt646.2.1 bt646.2.2.1 bt646.2.2.2)))
theorem salvorref16_Begin.mono_l : ∀ k, (∀ y0 y1 y2 y3 y4 y5 y6 y7, LeO (salvorref16_Begin.j0 k y0 y1 y2 y3 y4 y5 y6 y7) (salvorref16_Begin.j0 (k + 1) y0 y1 y2 y3 y4 y5 y6 y7)) ∧ (∀ y0 y1 y2 y3 y4 y5 y6, LeO (salvorref16_Begin.j1 k y0 y1 y2 y3 y4 y5 y6) (salvorref16_Begin.j1 (k + 1) y0 y1 y2 y3 y4 y5 y6))
 | 0 => ⟨fun _ _ _ _ _ _ _ _ r h => by simp [salvorref16_Begin.j0] at h, fun _ _ _ _ _ _ _ r h => by simp [salvorref16_Begin.j1] at h⟩
 | k + 1 => by
  obtain ⟨ih0, ih1⟩ := salvorref16_Begin.mono_l k
  refine ⟨?_, ?_⟩
  ·intro y0 y1 y2 y3 y4 y5 y6 y7
   unfold salvorref16_Begin.j0
   repeat' first
   | (with_reducible exact ih0 _ _ _ _ _ _ _ _)
   | (with_reducible exact ih1 _ _ _ _ _ _ _)
   | (with_reducible exact salvorref16_MayMap.mono _ _ _ _ _)
   | (with_reducible exact salvorref16_begin.mono _ _ _ _ _)
   | (with_reducible exact salvorref16_told.mono _ _ _ _ _ _ _ _)
   | (with_reducible exact LeO.refl _)
   | (with_reducible exact LeO.none _)
   | (with_reducible refine LeO.ite ?_ ?_)
   | (with_reducible refine LeO.bind ?_ (fun _ => ?_))
   | exact ih0 _ _ _ _ _ _ _ _
   | exact ih1 _ _ _ _ _ _ _
   | exact salvorref16_MayMap.mono _ _ _ _ _
   | exact salvorref16_begin.mono _ _ _ _ _
   | exact salvorref16_told.mono _ _ _ _ _ _ _ _
   | exact LeO.none _
   | refine LeO.ite ?_ ?_
   | refine LeO.bind ?_ (fun _ => ?_)
  ·intro y0 y1 y2 y3 y4 y5 y6
   unfold salvorref16_Begin.j1
   repeat' first
   | (with_reducible exact ih0 _ _ _ _ _ _ _ _)
   | (with_reducible exact ih1 _ _ _ _ _ _ _)
   | (with_reducible exact salvorref16_MayMap.mono _ _ _ _ _)
   | (with_reducible exact salvorref16_begin.mono _ _ _ _ _)
   | (with_reducible exact salvorref16_told.mono _ _ _ _ _ _ _ _)
   | (with_reducible exact LeO.refl _)
   | (with_reducible exact LeO.none _)
   | (with_reducible refine LeO.ite ?_ ?_)
   | (with_reducible refine LeO.bind ?_ (fun _ => ?_))
   | exact ih0 _ _ _ _ _ _ _ _
   | exact ih1 _ _ _ _ _ _ _
   | exact salvorref16_MayMap.mono _ _ _ _ _
   | exact salvorref16_begin.mono _ _ _ _ _
   | exact salvorref16_told.mono _ _ _ _ _ _ _ _
   | exact LeO.none _
   | refine LeO.ite ?_ ?_
   | refine LeO.bind ?_ (fun _ => ?_)
theorem salvorref16_Begin.mono : ∀ a0 a1 a2 a3 a4 a5 a6 k, LeO (salvorref16_Begin.f k a0 a1 a2 a3 a4 a5 a6) (salvorref16_Begin.f (k + 1) a0 a1 a2 a3 a4 a5 a6) := by
 intro a0 a1 a2 a3 a4 a5 a6 k
 obtain ⟨ih0, ih1⟩ := salvorref16_Begin.mono_l k
 unfold salvorref16_Begin.f
 repeat' first
   | (with_reducible exact ih0 _ _ _ _ _ _ _ _)
   | (with_reducible exact ih1 _ _ _ _ _ _ _)
   | (with_reducible exact salvorref16_MayMap.mono _ _ _ _ _)
   | (with_reducible exact salvorref16_begin.mono _ _ _ _ _)
   | (with_reducible exact salvorref16_told.mono _ _ _ _ _ _ _ _)
   | (with_reducible exact LeO.refl _)
   | (with_reducible exact LeO.none _)
   | (with_reducible refine LeO.ite ?_ ?_)
   | (with_reducible refine LeO.bind ?_ (fun _ => ?_))
   | exact ih0 _ _ _ _ _ _ _ _
   | exact ih1 _ _ _ _ _ _ _
   | exact salvorref16_MayMap.mono _ _ _ _ _
   | exact salvorref16_begin.mono _ _ _ _ _
   | exact salvorref16_told.mono _ _ _ _ _ _ _ _
   | exact LeO.none _
   | refine LeO.ite ?_ ?_
   | refine LeO.bind ?_ (fun _ => ?_)
set_option maxHeartbeats 8000000 in
set_option maxRecDepth 100000 in
theorem salvorref16_Begin.calls (k : Nat) (a0_0 : Int) (a0_1 : Int) (a0_2 : Bool) (a1_0 : Int) (a1_1 : Int) (a1_2 : Int) (A1_3 : Option Addr) (c1_3 : Nat) (l1_3 : List (S33)) (r1 : Int) (r2 : Int) (r3 : Int) (r4 : List (S33)) (w : World) (hr1_3 : Kd.C k33 w A1_3 l1_3.length l1_3) (hc1_3 : l1_3.length ≤ c1_3) (h : salvorref16_Begin.f k a0_0 a0_1 a0_2 a1_0 a1_1 a1_2 l1_3 = some (r1, r2, r3, r4)) :
  Calls Try.prog 29 #[.agg #[.int .i64 a0_0, .int .i64 a0_1, .bool a0_2], .agg #[.int .i64 a1_0, .int .i64 a1_1, .int .u8 a1_2, .slice A1_3 l1_3.length c1_3]] w fun e w' => ∃ v3_ : Value, e = .returned (.agg #[.int .i64 r1, .int .i64 r2, .int .u8 r3, v3_]) ∧ Kd.R k33 33 w' w.heap.size (fun _ => True) v3_ r4 ∧ Below w.heap.size w w' := by
 have hu23 := Try.underlying23
 have hu26 := Try.underlying26
 have HR1_3 := Aside0.mk hr1_3
 have HC1_3 := Aside0.mk hc1_3
 clear hr1_3 hc1_3
 have HB := Aside0.mk (Below.refl w.heap.size w)
 have H : ((salvorref16_CopyMap.f a1_0 a1_1 a1_2 l1_3).bind fun bt646 => ((salvorref16_MayOpts.f a0_0 a0_1 a0_2).bind fun t652 => (if t652 = true then ((salvorref16_MayMap.f k bt646.1 bt646.2.1 bt646.2.2.1 bt646.2.2.2).bind fun t653 => (salvorref16_Begin.j0 k (!t653) a0_0 a0_1 a0_2 bt646.1 bt646.2.1 bt646.2.2.1 bt646.2.2.2)) else (salvorref16_Begin.j0 k true a0_0 a0_1 a0_2 bt646.1 bt646.2.1 bt646.2.2.1 bt646.2.2.2)))) = some (r1, r2, r3, r4) := h
 clear h
 replace H := Option.bind_eq_some_iff.mp H
 obtain ⟨⟨t646, t647, t648, t649⟩, A30, H⟩ := H
 replace H : ((salvorref16_MayOpts.f a0_0 a0_1 a0_2).bind fun t652 => (if t652 = true then ((salvorref16_MayMap.f k t646 t647 t648 t649).bind fun t653 => (salvorref16_Begin.j0 k (!t653) a0_0 a0_1 a0_2 t646 t647 t648 t649)) else (salvorref16_Begin.j0 k true a0_0 a0_1 a0_2 t646 t647 t648 t649))) = some (r1, r2, r3, r4) := H
 have A3 := Aside0.mk A30
 clear A30
 have HC4 := Aside0.mk H
 clear H
 go_enter Try.func29, Try.ntmps29
 go_upto_region 2 with (first | ((with_reducible refine gate_dst (N := 2) rfl ?_); refine box_e 2 #[.int .i64 a0_0, .int .i64 a0_1, .bool a0_2] 23 ?_; intro gb643 hg w5 hbox hb; have BK643 := Aside0.mk hbox; have GW643 := bg_ HB hg; have GE643 := bg_ HB hg; replace HB := bs_ HB hb; clear hb hbox hg) | ((with_reducible refine gate_dst (N := 3) rfl ?_); refine box_e 3 #[.int .i64 a1_0, .int .i64 a1_1, .int .u8 a1_2, .slice A1_3 l1_3.length c1_3] 26 ?_; intro gb644 hg w6 hbox hb; have BK644 := Aside0.mk hbox; have GW644 := bg_ HB hg; have GE644 := bg_ HB hg; have NB643_644 := bn_ BK643 hg; have NB644_643 := bm_ BK643 hg; replace BK643 := bb_ BK643 hb; replace HB := bs_ HB hb; clear hb hbox hg) | ((with_reducible refine gate_dst (N := 4) rfl ?_); refine box_e 4 #[.int .i64 0, .int .i64 0, .int .u8 0, .slice none 0 0] 26 ?_; intro gb645 hg w7 hbox hb; have BK645 := Aside0.mk hbox; have GW645 := bg_ HB hg; have GE645 := bg_ HB hg; have NB643_645 := bn_ BK643 hg; have NB645_643 := bm_ BK643 hg; have NB644_645 := bn_ BK644 hg; have NB645_644 := bm_ BK644 hg; replace BK643 := bb_ BK643 hb; replace BK644 := bb_ BK644 hb; replace HB := bs_ HB hb; clear hb hbox hg; have hnb8 := NB644_643.out; have hnc8 := NB643_644.out; have hnb9 := NB644_645.out; have hnc9 := NB645_644.out; obtain ⟨hcz10_0, hcz10_1, hcz10_2, hcz10_3, hfz10_0, hfz10_1, hfz10_2, hfz10_3⟩ := c4_ BK644) | ((with_reducible refine gate_callee (f := 39) rfl ?_); refine gl_ (some 6) rfl rfl Try.func39 (by kernel_rfl) rfl #[.agg #[.int .i64 a1_0, .int .i64 a1_1, .int .u8 a1_2, .slice A1_3 l1_3.length c1_3]] rfl ?_; (with_reducible refine (salvorref16_CopyMap.calls a1_0 a1_1 a1_2 _ _ l1_3 t646 t647 t648 t649 _ ?side1 ?side2 A3.out).mono ?_); (case side1 => exact cb_ HR1_3 HB); (case side2 => exact HC1_3.out); rintro e w11 ⟨v650, rfl, ho0, hb⟩; refine ⟨_, rfl, ?_⟩; have HO651 := Aside0.mk (Kd.R_lower ho0 (below_size (bh_ HB))); replace BK643 := bb_ BK643 hb; replace BK644 := bb_ BK644 hb; replace BK645 := bb_ BK645 hb; replace HB := bs_ HB hb; (try clear hb); (try clear hb2); (try clear hk); (try clear hi); (try clear ho0); obtain ⟨hcz12_0, hcz12_1, hcz12_2, hcz12_3, hfz12_0, hfz12_1, hfz12_2, hfz12_3⟩ := c4_ BK644; obtain ⟨Ao13, co13, eo13⟩ := Kd.R_slice HO651.out; subst eo13) | ((with_reducible refine gate_store (t := 26) (p := 3) rfl ?_); refine store_event (t := 26) (p := 3) (v := ?vo_w14) (w1 := ((((w11.setCell ⟨gb644, 0, none⟩ (.int .i64 t646)).setCell ⟨gb644, 1, none⟩ (.int .i64 t647)).setCell ⟨gb644, 2, none⟩ (.int .u8 t648)).setCell ⟨gb644, 3, none⟩ (.slice Ao13 t649.length co13))) ?hg ?ho ?hn ?hr ?_; (case ho => rfl); (case hg => rfl); (case hn => rfl); (case hr => first | (go_simp; done) | (go_simp; rfl)); intro w14 hw; have n0_ : Aside0 (Kd.R k33 33 w14 w.heap.size (fun _ => True) (.slice Ao13 t649.length co13) t649) := ⟨(by rw [hw]; exact (by (with_reducible repeat (first | apply Kd.R_alloc | apply Kd.R_drewN | apply Kd.R_drew)); exact Kd.R_mono (Kd.R_far (p := ⟨gb644, 3, none⟩) (Kd.R_far (p := ⟨gb644, 2, none⟩) (Kd.R_far (p := ⟨gb644, 1, none⟩) (Kd.R_far (p := ⟨gb644, 0, none⟩) (Kd.R_types HO651.out BK644.out (by decide)) (fun _ hk => hk.2) (.int .i64 t646)) (fun _ hk => hk.2) (.int .i64 t647)) (fun _ hk => hk.2) (.int .u8 t648)) (fun _ hk => hk.2) (.slice Ao13 t649.length co13)) (fun _ hk => trivial)))⟩; have n1_ : Aside0 (w14.heap[gb643]? = some (.cells #[.int .i64 a0_0, .int .i64 a0_1, .bool a0_2] 23 (0, 0))) := ⟨(by rw [hw]; exact bp_ BK643)⟩; have n2_ : Aside0 (w14.heap[gb644]? = some (.cells #[.int .i64 t646, .int .i64 t647, .int .u8 t648, .slice Ao13 t649.length co13] 26 (0, 0))) := ⟨(by rw [hw]; exact bp_ BK644)⟩; have n3_ : Aside0 (w14.heap[gb645]? = some (.cells #[.int .i64 0, .int .i64 0, .int .u8 0, .slice none 0 0] 26 (0, 0))) := ⟨(by rw [hw]; exact bp_ BK645)⟩; have n4_ : Aside0 (Below w.heap.size w w14) := ⟨(by rw [hw]; exact bh_ HB)⟩; clear hw; clear HO651; clear BK643; clear BK644; clear BK645; clear HB; have HO651 := n0_; have BK643 := n1_; have BK644 := n2_; have BK645 := n3_; have HB := n4_; clear n0_ n1_ n2_ n3_ n4_))
 (try simp only [Act.put, List.setIfInBounds_toArray, List.set_cons_zero, List.set_cons_succ])
 go_cut [14] (fun v14 wc => ∃ (kq : Nat) (x14_3 : Bool), v14 = .bool x14_3 ∧ Aside0 (salvorref16_Begin.j0 kq x14_3 a0_0 a0_1 a0_2 t646 t647 t648 t649 = some (r1, r2, r3, r4)) ∧ Aside0 (kq ≤ k) ∧ Aside0 (Kd.R k33 33 wc w.heap.size (fun _ => True) (.slice Ao13 t649.length co13) t649) ∧ Aside0 (wc.heap[gb643]? = some (.cells #[.int .i64 a0_0, .int .i64 a0_1, .bool a0_2] 23 (0, 0))) ∧ Aside0 (wc.heap[gb644]? = some (.cells #[.int .i64 t646, .int .i64 t647, .int .u8 t648, (.slice Ao13 t649.length co13)] 26 (0, 0))) ∧ Aside0 (wc.heap[gb645]? = some (.cells #[.int .i64 0, .int .i64 0, .int .u8 0, (.slice none 0 0)] 26 (0, 0))) ∧ Aside0 (Below w.heap.size w wc))
 case first =>
  have H := HC4.out
  clear HC4
  replace H := Option.bind_eq_some_iff.mp H
  obtain ⟨t652, A150, H⟩ := H
  replace H : (if t652 = true then ((salvorref16_MayMap.f k t646 t647 t648 t649).bind fun t653 => (salvorref16_Begin.j0 k (!t653) a0_0 a0_1 a0_2 t646 t647 t648 t649)) else (salvorref16_Begin.j0 k true a0_0 a0_1 a0_2 t646 t647 t648 t649)) = some (r1, r2, r3, r4) := H
  have A15 := Aside0.mk A150
  clear A150
  by_cases c16 : t652 = true
  ·subst c16
   have H1 : ((salvorref16_MayMap.f k t646 t647 t648 t649).bind fun t653 => (salvorref16_Begin.j0 k (!t653) a0_0 a0_1 a0_2 t646 t647 t648 t649)) = some (r1, r2, r3, r4) := by rw [if_pos rfl] at H; exact H
   clear H
   have H := H1
   clear H1
   replace H := Option.bind_eq_some_iff.mp H
   obtain ⟨t653, A170, H⟩ := H
   replace H : (salvorref16_Begin.j0 k (!t653) a0_0 a0_1 a0_2 t646 t647 t648 t649) = some (r1, r2, r3, r4) := H
   have A17 := Aside0.mk A170
   clear A170
   have H' := Aside0.mk H
   clear H
   have hnb18 := NB643_644.out
   have hnc18 := NB644_643.out
   have hnb19 := NB643_645.out
   have hnc19 := NB645_643.out
   obtain ⟨hcz20_0, hcz20_1, hcz20_2, hfz20_0, hfz20_1, hfz20_2⟩ := c3_ BK643
   go_wp2_with (first | ((with_reducible refine gate_callee (f := 25) rfl ?_); refine gl_ (some 8) rfl rfl Try.func25 (by kernel_rfl) rfl #[.agg #[.int .i64 a0_0, .int .i64 a0_1, .bool a0_2]] rfl ?_; (with_reducible refine (salvorref16_MayOpts.calls a0_0 a0_1 a0_2 true _ A15.out).mono ?_); rintro e w21 ⟨rfl, hb⟩; refine ⟨_, rfl, ?_⟩; have n0_ := Aside0.mk (Kd.R_below (by (with_reducible repeat (first | apply Kd.R_alloc | apply Kd.R_drewN | apply Kd.R_drew)); exact HO651.out) hb); have n1_ := bb_ BK643 hb; have n2_ := bb_ BK644 hb; have n3_ := bb_ BK645 hb; have n4_ := bs_ HB hb; clear HO651; clear BK643; clear BK644; clear BK645; clear HB; have HO651 := n0_; have BK643 := n1_; have BK644 := n2_; have BK645 := n3_; have HB := n4_; clear n0_ n1_ n2_ n3_ n4_; (try clear hb); have hnb22 := NB644_645.out; have hnc22 := NB645_644.out; obtain ⟨hcz23_0, hcz23_1, hcz23_2, hcz23_3, hfz23_0, hfz23_1, hfz23_2, hfz23_3⟩ := c4_ BK644) | (go_at_call 40; (with_reducible refine (salvorref16_MayMap.calls k t646 t647 t648 _ _ t649 t653 _ ?side1 ?side2 A17.out).mono ?_); (case side1 => repeat (first | exact (Kd.R_reads' HO651.out).2.2 | (with_reducible refine Kd.C_alloc ?_ _) | (with_reducible refine Kd.C_drewN ?_ _) | (with_reducible refine Kd.C_drew ?_))); (case side2 => exact (Kd.R_reads' HO651.out).2.1); rintro e w24 ⟨rfl, hb⟩; have n0_ := Aside0.mk (Kd.R_below (by (with_reducible repeat (first | apply Kd.R_alloc | apply Kd.R_drewN | apply Kd.R_drew)); exact HO651.out) hb); have n1_ := bb_ BK643 hb; have n2_ := bb_ BK644 hb; have n3_ := bb_ BK645 hb; have n4_ := bs_ HB hb; clear HO651; clear BK643; clear BK644; clear BK645; clear HB; have HO651 := n0_; have BK643 := n1_; have BK644 := n2_; have BK645 := n3_; have HB := n4_; clear n0_ n1_ n2_ n3_ n4_; (try clear hb)))
   go_meet
   case rel => exact ⟨_, (!t653), (by first | rfl | (simp; done) | (simp [*]; done)), H', ⟨by first | omega | exact Nat.le_refl _⟩, ⟨by (with_reducible repeat (first | apply Kd.R_alloc | apply Kd.R_drewN | apply Kd.R_drew)); exact HO651.out⟩, ⟨bq_ BK643⟩, ⟨bq_ BK644⟩, ⟨bq_ BK645⟩, ⟨bh_ HB⟩⟩
  ·replace c16 := Bool.eq_false_iff.mpr c16
   subst c16
   have H1 : (salvorref16_Begin.j0 k true a0_0 a0_1 a0_2 t646 t647 t648 t649) = some (r1, r2, r3, r4) := by rw [if_neg (show ¬ (false = true) by decide)] at H; exact H
   clear H
   have H := H1
   clear H1
   have H' := Aside0.mk H
   clear H
   have hnb25 := NB643_644.out
   have hnc25 := NB644_643.out
   have hnb26 := NB643_645.out
   have hnc26 := NB645_643.out
   obtain ⟨hcz27_0, hcz27_1, hcz27_2, hfz27_0, hfz27_1, hfz27_2⟩ := c3_ BK643
   go_wp2_with (first | ((with_reducible refine gate_callee (f := 25) rfl ?_); refine gl_ (some 8) rfl rfl Try.func25 (by kernel_rfl) rfl #[.agg #[.int .i64 a0_0, .int .i64 a0_1, .bool a0_2]] rfl ?_; (with_reducible refine (salvorref16_MayOpts.calls a0_0 a0_1 a0_2 false _ A15.out).mono ?_); rintro e w28 ⟨rfl, hb⟩; refine ⟨_, rfl, ?_⟩; have n0_ := Aside0.mk (Kd.R_below (by (with_reducible repeat (first | apply Kd.R_alloc | apply Kd.R_drewN | apply Kd.R_drew)); exact HO651.out) hb); have n1_ := bb_ BK643 hb; have n2_ := bb_ BK644 hb; have n3_ := bb_ BK645 hb; have n4_ := bs_ HB hb; clear HO651; clear BK643; clear BK644; clear BK645; clear HB; have HO651 := n0_; have BK643 := n1_; have BK644 := n2_; have BK645 := n3_; have HB := n4_; clear n0_ n1_ n2_ n3_ n4_; (try clear hb)))
   go_meet
   case rel => exact ⟨_, (true), (by first | rfl | (simp; done) | (simp [*]; done)), H', ⟨by first | omega | exact Nat.le_refl _⟩, ⟨by (with_reducible repeat (first | apply Kd.R_alloc | apply Kd.R_drewN | apply Kd.R_drew)); exact HO651.out⟩, ⟨bq_ BK643⟩, ⟨bq_ BK644⟩, ⟨bq_ BK645⟩, ⟨bh_ HB⟩⟩
 case rest =>
  clear HC4
  try clear c1
  try clear c2
  try clear p2
  try clear c3
  try clear c8
  try clear c9
  try clear c16
  try clear c18
  try clear c19
  try clear c22
  try clear c25
  try clear c26
  try clear hcz10_0 hcz10_1 hcz10_2 hcz10_3
  try clear hcz12_0 hcz12_1 hcz12_2 hcz12_3
  try clear hcz20_0 hcz20_1 hcz20_2
  try clear hcz23_0 hcz23_1 hcz23_2 hcz23_3
  try clear hcz27_0 hcz27_1 hcz27_2
  try clear hfz10_0 hfz10_1 hfz10_2 hfz10_3
  try clear hfz12_0 hfz12_1 hfz12_2 hfz12_3
  try clear hfz20_0 hfz20_1 hfz20_2
  try clear hfz23_0 hfz23_1 hfz23_2 hfz23_3
  try clear hfz27_0 hfz27_1 hfz27_2
  obtain ⟨kq, x14_3, rfl, HA, HJ3, HO_645003, BK643, BK644, BK645, HB⟩ := hcut
  cases kq with
  | zero => exact absurd HA.out (by simp [salvorref16_Begin.j0])
  | succ kj3 =>
   have H := HA.out
   clear HA
   simp only [salvorref16_Begin.j0] at H
   have HC29 := Aside0.mk H
   clear H
   go_upto_if 14 with (fail)
   go_cut [] (fun wc => ∃ (kq : Nat) (x646000_28 : Int) (x646001_28 : Int) (x646002_28 : Int), Aside0 (salvorref16_Begin.j1 kq a0_0 a0_1 a0_2 t646 t647 t648 t649 = some (r1, r2, r3, r4)) ∧ Aside0 (kq ≤ kj3) ∧ Aside0 (Kd.R k33 33 wc w.heap.size (fun _ => True) (.slice Ao13 t649.length co13) t649) ∧ Aside0 (wc.heap[gb643]? = some (.cells #[.int .i64 a0_0, .int .i64 a0_1, .bool a0_2] 23 (0, 0))) ∧ Aside0 (wc.heap[gb644]? = some (.cells #[.int .i64 t646, .int .i64 t647, .int .u8 t648, (.slice Ao13 t649.length co13)] 26 (0, 0))) ∧ Aside0 (wc.heap[gb645]? = some (.cells #[.int .i64 x646000_28, .int .i64 x646001_28, .int .u8 x646002_28, (.slice none 0 0)] 26 (0, 0))) ∧ Aside0 (Below w.heap.size w wc))
   case first =>
    have H := HC29.out
    clear HC29
    by_cases c30 : x14_3 = true
    ·subst c30
     have H1 : (some (t646, t647, t648, t649)) = some (r1, r2, r3, r4) := by rw [if_pos rfl] at H; exact H
     clear H
     have H := H1
     clear H1
     simp only [Option.some.injEq, Prod.mk.injEq] at H
     obtain ⟨rfl, rfl, rfl, rfl⟩ := H
     have hnb31 := NB644_643.out
     have hnc31 := NB643_644.out
     have hnb32 := NB644_645.out
     have hnc32 := NB645_644.out
     obtain ⟨hcz33_0, hcz33_1, hcz33_2, hcz33_3, hfz33_0, hfz33_1, hfz33_2, hfz33_3⟩ := c4_ BK644
     have hnb34 := NB645_643.out
     have hnc34 := NB643_645.out
     obtain ⟨hcz35_0, hcz35_1, hcz35_2, hcz35_3, hfz35_0, hfz35_1, hfz35_2, hfz35_3⟩ := c4_ BK645
     go_wp2_with (first | ((with_reducible refine gate_store (t := 26) (p := 4) rfl ?_); refine store_event (t := 26) (p := 4) (v := ?vo_w36) (w1 := ((((wc.setCell ⟨gb645, 0, none⟩ (.int .i64 t646)).setCell ⟨gb645, 1, none⟩ (.int .i64 t647)).setCell ⟨gb645, 2, none⟩ (.int .u8 t648)).setCell ⟨gb645, 3, none⟩ (.slice Ao13 t649.length co13))) ?hg ?ho ?hn ?hr ?_; (case ho => rfl); (case hg => rfl); (case hn => rfl); (case hr => first | (go_simp; done) | (go_simp; rfl)); intro w36 hw; have n0_ : Aside0 (Kd.R k33 33 w36 w.heap.size (fun _ => True) (.slice Ao13 t649.length co13) t649) := ⟨(by rw [hw]; exact (by (with_reducible repeat (first | apply Kd.R_alloc | apply Kd.R_drewN | apply Kd.R_drew)); exact Kd.R_mono (Kd.R_far (p := ⟨gb645, 3, none⟩) (Kd.R_far (p := ⟨gb645, 2, none⟩) (Kd.R_far (p := ⟨gb645, 1, none⟩) (Kd.R_far (p := ⟨gb645, 0, none⟩) (Kd.R_types HO_645003.out BK645.out (by decide)) (fun _ hk => hk.2) (.int .i64 t646)) (fun _ hk => hk.2) (.int .i64 t647)) (fun _ hk => hk.2) (.int .u8 t648)) (fun _ hk => hk.2) (.slice Ao13 t649.length co13)) (fun _ hk => trivial)))⟩; have n1_ : Aside0 (w36.heap[gb643]? = some (.cells #[.int .i64 a0_0, .int .i64 a0_1, .bool a0_2] 23 (0, 0))) := ⟨(by rw [hw]; exact bp_ BK643)⟩; have n2_ : Aside0 (w36.heap[gb644]? = some (.cells #[.int .i64 t646, .int .i64 t647, .int .u8 t648, .slice Ao13 t649.length co13] 26 (0, 0))) := ⟨(by rw [hw]; exact bp_ BK644)⟩; have n3_ : Aside0 (w36.heap[gb645]? = some (.cells #[.int .i64 t646, .int .i64 t647, .int .u8 t648, .slice Ao13 t649.length co13] 26 (0, 0))) := ⟨(by rw [hw]; exact bp_ BK645)⟩; have n4_ : Aside0 (Below w.heap.size w w36) := ⟨(by rw [hw]; exact bh_ HB)⟩; clear hw; clear HO_645003; clear BK643; clear BK644; clear BK645; clear HB; have HO_645003 := n0_; have BK643 := n1_; have BK644 := n2_; have BK645 := n3_; have HB := n4_; clear n0_ n1_ n2_ n3_ n4_))
     refine bodyPost_ret (results_cell_row rfl _ _ gb645 26 #[.int .i64 t646, .int .i64 t647, .int .u8 t648, .slice Ao13 t649.length co13] (0, 0) _ rfl (bq_ BK645) Try.underlying26 rfl (by kernel_rfl)) rfl ?_
     exact ⟨_, by first | rfl | (simp [errW_none, errW_some] <;> rfl) | (simp [*, errW_none, errW_some] <;> rfl), by (with_reducible repeat (first | apply Kd.R_alloc | apply Kd.R_drewN | apply Kd.R_drew)); exact HO_645003.out, bh_ HB⟩
    ·replace c30 := Bool.eq_false_iff.mpr c30
     subst c30
     have H1 : (salvorref16_Begin.j1 kj3 a0_0 a0_1 a0_2 t646 t647 t648 t649) = some (r1, r2, r3, r4) := by rw [if_neg (show ¬ (false = true) by decide)] at H; exact H
     clear H
     have H := H1
     clear H1
     have H' := Aside0.mk H
     clear H
     go_wp2
     go_meet
     case rel => exact ⟨_, (0), (0), (0), H', ⟨by have := HJ3.out; first | omega | exact Nat.le_refl _⟩, ⟨by (with_reducible repeat (first | apply Kd.R_alloc | apply Kd.R_drewN | apply Kd.R_drew)); exact HO_645003.out⟩, ⟨bq_ BK643⟩, ⟨bq_ BK644⟩, ⟨bq_ BK645⟩, ⟨bh_ HB⟩⟩
   case rest =>
    clear HC29
    try clear c1
    try clear c2
    try clear p2
    try clear c3
    try clear c8
    try clear c9
    try clear c16
    try clear c18
    try clear c19
    try clear c22
    try clear c25
    try clear c26
    try clear c29
    try clear c30
    try clear c31
    try clear c32
    try clear c34
    try clear hcz10_0 hcz10_1 hcz10_2 hcz10_3
    try clear hcz12_0 hcz12_1 hcz12_2 hcz12_3
    try clear hcz20_0 hcz20_1 hcz20_2
    try clear hcz23_0 hcz23_1 hcz23_2 hcz23_3
    try clear hcz27_0 hcz27_1 hcz27_2
    try clear hcz33_0 hcz33_1 hcz33_2 hcz33_3
    try clear hcz35_0 hcz35_1 hcz35_2 hcz35_3
    try clear hfz10_0 hfz10_1 hfz10_2 hfz10_3
    try clear hfz12_0 hfz12_1 hfz12_2 hfz12_3
    try clear hfz20_0 hfz20_1 hfz20_2
    try clear hfz23_0 hfz23_1 hfz23_2 hfz23_3
    try clear hfz27_0 hfz27_1 hfz27_2
    try clear hfz33_0 hfz33_1 hfz33_2 hfz33_3
    try clear hfz35_0 hfz35_1 hfz35_2 hfz35_3
    try clear p2
    obtain ⟨kq, x646000_28, x646001_28, x646002_28, HA, HJ28, HO_645003, BK643, BK644, BK645, HB⟩ := hcut
    cases kq with
    | zero => exact absurd HA.out (by simp [salvorref16_Begin.j1])
    | succ kj28 =>
     have H := HA.out
     clear HA
     simp only [salvorref16_Begin.j1] at H
     replace H := Option.bind_eq_some_iff.mp H
     obtain ⟨t654, A370, H⟩ := H
     replace H : ((salvorref16_told.f kj28 a0_0 a0_1 a0_2 t654 0 t648 t649).bind fun bt655 => (some (bt655.1, bt655.2.1, bt655.2.2.1, bt655.2.2.2))) = some (r1, r2, r3, r4) := H
     have A37 := Aside0.mk A370
     clear A370
     replace H := Option.bind_eq_some_iff.mp H
     obtain ⟨⟨t655, t656, t657, t658⟩, A380, H⟩ := H
     replace H : (some (t655, t656, t657, t658)) = some (r1, r2, r3, r4) := H
     have A38 := Aside0.mk A380
     clear A380
     simp only [Option.some.injEq, Prod.mk.injEq] at H
     obtain ⟨rfl, rfl, rfl, rfl⟩ := H
     have hnb39 := NB643_644.out
     have hnc39 := NB644_643.out
     have hnb40 := NB643_645.out
     have hnc40 := NB645_643.out
     obtain ⟨hcz41_0, hcz41_1, hcz41_2, hfz41_0, hfz41_1, hfz41_2⟩ := c3_ BK643
     have hnb42 := NB644_645.out
     have hnc42 := NB645_644.out
     obtain ⟨hcz43_0, hcz43_1, hcz43_2, hcz43_3, hfz43_0, hfz43_1, hfz43_2, hfz43_3⟩ := c4_ BK644
     go_wp2_with (first | ((with_reducible refine gate_callee (f := 52) rfl ?_); refine gl_ (some 19) rfl rfl Try.func52 (by kernel_rfl) rfl #[.agg #[.int .i64 a0_0, .int .i64 a0_1, .bool a0_2], .slice Ao13 t649.length co13] rfl ?_; (with_reducible refine (salvorref16_begin.calls kj28 a0_0 a0_1 a0_2 _ _ t649 t654 _ ?side1 ?side2 A37.out).mono ?_); (case side1 => repeat (first | exact (Kd.R_reads' HO_645003.out).2.2 | (with_reducible refine Kd.C_alloc ?_ _) | (with_reducible refine Kd.C_drewN ?_ _) | (with_reducible refine Kd.C_drew ?_))); (case side2 => exact (Kd.R_reads' HO_645003.out).2.1); rintro e w44 ⟨rfl, hb⟩; refine ⟨_, rfl, ?_⟩; have n0_ := Aside0.mk (Kd.R_below (by (with_reducible repeat (first | apply Kd.R_alloc | apply Kd.R_drewN | apply Kd.R_drew)); exact HO_645003.out) hb); have n1_ := bb_ BK643 hb; have n2_ := bb_ BK644 hb; have n3_ := bb_ BK645 hb; have n4_ := bs_ HB hb; clear HO_645003; clear BK643; clear BK644; clear BK645; clear HB; have HO_645003 := n0_; have BK643 := n1_; have BK644 := n2_; have BK645 := n3_; have HB := n4_; clear n0_ n1_ n2_ n3_ n4_; (try clear hb); obtain ⟨hcz45_0, hcz45_1, hcz45_2, hcz45_3, hfz45_0, hfz45_1, hfz45_2, hfz45_3⟩ := c4_ BK644) | ((with_reducible refine gate_store (t := 3) (p := 20) rfl ?_); refine store_event (t := 3) (p := 20) (v := ?vo_w46) (w1 := (w44.setCell ⟨gb644, 1, none⟩ (.int .i64 0))) ?hg ?ho ?hn ?hr ?_; (case ho => rfl); (case hg => rfl); (case hn => rfl); (case hr => first | (go_simp; done) | (go_simp; rfl)); intro w46 hw; have n0_ : Aside0 (Kd.R k33 33 w46 w.heap.size (fun _ => True) (.slice Ao13 t649.length co13) t649) := ⟨(by rw [hw]; exact (by (with_reducible repeat (first | apply Kd.R_alloc | apply Kd.R_drewN | apply Kd.R_drew)); exact Kd.R_mono (Kd.R_far (p := ⟨gb644, 1, none⟩) (Kd.R_types HO_645003.out BK644.out (by decide)) (fun _ hk => hk.2) (.int .i64 0)) (fun _ hk => trivial)))⟩; have n1_ : Aside0 (w46.heap[gb643]? = some (.cells #[.int .i64 a0_0, .int .i64 a0_1, .bool a0_2] 23 (0, 0))) := ⟨(by rw [hw]; exact bp_ BK643)⟩; have n2_ : Aside0 (w46.heap[gb644]? = some (.cells #[.int .i64 t646, .int .i64 0, .int .u8 t648, .slice Ao13 t649.length co13] 26 (0, 0))) := ⟨(by rw [hw]; exact bp_ BK644)⟩; have n3_ : Aside0 (w46.heap[gb645]? = some (.cells #[.int .i64 x646000_28, .int .i64 x646001_28, .int .u8 x646002_28, .slice none 0 0] 26 (0, 0))) := ⟨(by rw [hw]; exact bp_ BK645)⟩; have n4_ : Aside0 (Below w.heap.size w w46) := ⟨(by rw [hw]; exact bh_ HB)⟩; clear hw; clear HO_645003; clear BK643; clear BK644; clear BK645; clear HB; have HO_645003 := n0_; have BK643 := n1_; have BK644 := n2_; have BK645 := n3_; have HB := n4_; clear n0_ n1_ n2_ n3_ n4_; obtain ⟨hcz47_0, hcz47_1, hcz47_2, hcz47_3, hfz47_0, hfz47_1, hfz47_2, hfz47_3⟩ := c4_ BK644) | ((with_reducible refine gate_store (t := 3) (p := 21) rfl ?_); refine store_event (t := 3) (p := 21) (v := ?vo_w48) (w1 := (w46.setCell ⟨gb644, 0, none⟩ (.int .i64 t654))) ?hg ?ho ?hn ?hr ?_; (case ho => rfl); (case hg => rfl); (case hn => rfl); (case hr => first | (go_simp; done) | (go_simp; rfl)); intro w48 hw; have n0_ : Aside0 (Kd.R k33 33 w48 w.heap.size (fun _ => True) (.slice Ao13 t649.length co13) t649) := ⟨(by rw [hw]; exact (by (with_reducible repeat (first | apply Kd.R_alloc | apply Kd.R_drewN | apply Kd.R_drew)); exact Kd.R_mono (Kd.R_far (p := ⟨gb644, 0, none⟩) (Kd.R_types HO_645003.out BK644.out (by decide)) (fun _ hk => hk.2) (.int .i64 t654)) (fun _ hk => trivial)))⟩; have n1_ : Aside0 (w48.heap[gb643]? = some (.cells #[.int .i64 a0_0, .int .i64 a0_1, .bool a0_2] 23 (0, 0))) := ⟨(by rw [hw]; exact bp_ BK643)⟩; have n2_ : Aside0 (w48.heap[gb644]? = some (.cells #[.int .i64 t654, .int .i64 0, .int .u8 t648, .slice Ao13 t649.length co13] 26 (0, 0))) := ⟨(by rw [hw]; exact bp_ BK644)⟩; have n3_ : Aside0 (w48.heap[gb645]? = some (.cells #[.int .i64 x646000_28, .int .i64 x646001_28, .int .u8 x646002_28, .slice none 0 0] 26 (0, 0))) := ⟨(by rw [hw]; exact bp_ BK645)⟩; have n4_ : Aside0 (Below w.heap.size w w48) := ⟨(by rw [hw]; exact bh_ HB)⟩; clear hw; clear HO_645003; clear BK643; clear BK644; clear BK645; clear HB; have HO_645003 := n0_; have BK643 := n1_; have BK644 := n2_; have BK645 := n3_; have HB := n4_; clear n0_ n1_ n2_ n3_ n4_; obtain ⟨hcz49_0, hcz49_1, hcz49_2, hfz49_0, hfz49_1, hfz49_2⟩ := c3_ BK643; obtain ⟨hcz50_0, hcz50_1, hcz50_2, hcz50_3, hfz50_0, hfz50_1, hfz50_2, hfz50_3⟩ := c4_ BK644) | ((with_reducible refine gate_callee (f := 44) rfl ?_); refine gl_ (some 24) rfl rfl Try.func44 (by kernel_rfl) rfl #[.agg #[.int .i64 a0_0, .int .i64 a0_1, .bool a0_2], .agg #[.int .i64 t654, .int .i64 0, .int .u8 t648, .slice Ao13 t649.length co13]] rfl ?_; (with_reducible refine (salvorref16_told.calls kj28 a0_0 a0_1 a0_2 t654 0 t648 (fun k_ => some k_ = (.slice Ao13 t649.length co13 : Value).ownBlock) (.slice Ao13 t649.length co13) t649 t655 t656 t657 t658 w _ ?side1 ?side2 A38.out).mono ?_); (case side1 => repeat (first | (with_reducible first | exact HB.out | apply below_alloc | apply pw_below_drewN | apply below_drew1 | refine below_set ?_ GE643.out | refine below_set ?_ GE644.out | refine below_set ?_ GE645.out) | exact HB.out)); (case side2 => exact Kd.R_tight rfl HO_645003.out); rintro e w51 ⟨v659, rfl, ho0, hb, hkp⟩; refine ⟨_, rfl, ?_⟩; have HO660 := Aside0.mk (Kd.R_mono (ok' := fun k_ => True) ho0 (fun k_ hk_ => trivial)); replace BK643 := Aside0.mk (blk_kept (bq_ BK643) hkp (fun hs_ => (fun e_ => (Kd.R_ne HO_645003.out BK643.out (by decide)) e_) hs_)); replace BK644 := Aside0.mk (blk_kept (bq_ BK644) hkp (fun hs_ => (fun e_ => (Kd.R_ne HO_645003.out BK644.out (by decide)) e_) hs_)); replace BK645 := Aside0.mk (blk_kept (bq_ BK645) hkp (fun hs_ => (fun e_ => (Kd.R_ne HO_645003.out BK645.out (by decide)) e_) hs_)); replace HB := Aside0.mk (hb); clear HO_645003; (try clear hb); (try clear hkp); (try clear ho0); obtain ⟨hcz52_0, hcz52_1, hcz52_2, hcz52_3, hfz52_0, hfz52_1, hfz52_2, hfz52_3⟩ := c4_ BK645; obtain ⟨Ao53, co53, eo53⟩ := Kd.R_slice HO660.out; subst eo53) | ((with_reducible refine gate_store (t := 26) (p := 4) rfl ?_); refine store_event (t := 26) (p := 4) (v := ?vo_w54) (w1 := ((((w51.setCell ⟨gb645, 0, none⟩ (.int .i64 t655)).setCell ⟨gb645, 1, none⟩ (.int .i64 t656)).setCell ⟨gb645, 2, none⟩ (.int .u8 t657)).setCell ⟨gb645, 3, none⟩ (.slice Ao53 t658.length co53))) ?hg ?ho ?hn ?hr ?_; (case ho => rfl); (case hg => rfl); (case hn => rfl); (case hr => first | (go_simp; done) | (go_simp; rfl)); intro w54 hw; have n0_ : Aside0 (Kd.R k33 33 w54 w.heap.size (fun _ => True) (.slice Ao53 t658.length co53) t658) := ⟨(by rw [hw]; exact (by (with_reducible repeat (first | apply Kd.R_alloc | apply Kd.R_drewN | apply Kd.R_drew)); exact Kd.R_mono (Kd.R_far (p := ⟨gb645, 3, none⟩) (Kd.R_far (p := ⟨gb645, 2, none⟩) (Kd.R_far (p := ⟨gb645, 1, none⟩) (Kd.R_far (p := ⟨gb645, 0, none⟩) (Kd.R_types HO660.out BK645.out (by decide)) (fun _ hk => hk.2) (.int .i64 t655)) (fun _ hk => hk.2) (.int .i64 t656)) (fun _ hk => hk.2) (.int .u8 t657)) (fun _ hk => hk.2) (.slice Ao53 t658.length co53)) (fun _ hk => trivial)))⟩; have n1_ : Aside0 (w54.heap[gb643]? = some (.cells #[.int .i64 a0_0, .int .i64 a0_1, .bool a0_2] 23 (0, 0))) := ⟨(by rw [hw]; exact bp_ BK643)⟩; have n2_ : Aside0 (w54.heap[gb644]? = some (.cells #[.int .i64 t654, .int .i64 0, .int .u8 t648, .slice Ao13 t649.length co13] 26 (0, 0))) := ⟨(by rw [hw]; exact bp_ BK644)⟩; have n3_ : Aside0 (w54.heap[gb645]? = some (.cells #[.int .i64 t655, .int .i64 t656, .int .u8 t657, .slice Ao53 t658.length co53] 26 (0, 0))) := ⟨(by rw [hw]; exact bp_ BK645)⟩; have n4_ : Aside0 (Below w.heap.size w w54) := ⟨(by rw [hw]; exact bh_ HB)⟩; clear hw; clear HO660; clear BK643; clear BK644; clear BK645; clear HB; have HO660 := n0_; have BK643 := n1_; have BK644 := n2_; have BK645 := n3_; have HB := n4_; clear n0_ n1_ n2_ n3_ n4_))
     refine bodyPost_ret (results_cell_row rfl _ _ gb645 26 #[.int .i64 t655, .int .i64 t656, .int .u8 t657, .slice Ao53 t658.length co53] (0, 0) _ rfl (bq_ BK645) Try.underlying26 rfl (by kernel_rfl)) rfl ?_
     exact ⟨_, by first | rfl | (simp [errW_none, errW_some] <;> rfl) | (simp [*, errW_none, errW_some] <;> rfl), by (with_reducible repeat (first | apply Kd.R_alloc | apply Kd.R_drewN | apply Kd.R_drew)); exact HO660.out, bh_ HB⟩

end Go.Proofs.Ytnoilinjlelpaaa.P
