/- Laid by a program of this session's own (wip/wprint.py, over the kit's print.py): functions of the given program as plain Lean functions, and that the program's calls come to their answers. -/
import Derived.Test.YtjgkfnbfjamccaaPx0
import Derived.Test.YtjgkfnbfjamccaaPx3
namespace Go.Proofs.Ytjgkfnbfjamccaa.P
open Go.RowKit Go.Proofs.YtjgkfnbfjamccaaW.PrintWords Go.Proofs.YtjgkfnbfjamccaaW.PrintLast Go.Proofs.YtjgkfnbfjamccaaW.PrintMore
attribute [local go_sem] max2_int min2_int max_two min_two max_three min_three max_four min_four   -- for this text's walks alone
set_option linter.unusedVariables false
set_option linter.unusedSimpArgs false

/-! ### region_New: function 11 -/
def region_New.f (a0 : Int) : Option ((List (S26))) := if a0 < 1 then (some ([] : List (S26))) else (if a0 > 1099511627776 then (some ([] : List (S26))) else (some (([(⟨0, a0, 63⟩ : S26)] : List (S26)))))
set_option maxHeartbeats 8000000 in
set_option maxRecDepth 100000 in
theorem region_New.calls (a0 : Int) (r : List (S26)) (w : World) (h : region_New.f a0 = some r) :
    Calls Try.prog 11 #[.int .i64 a0] w fun e w' => ∃ v0_ : Value, e = .returned (v0_) ∧ Kd.R k26 26 w' w.heap.size (fun _ => True) v0_ r ∧ Below w.heap.size w w' := by
  have hu26 := Try.underlying26
  have HB := Aside0.mk (Below.refl w.heap.size w)
  have H : (if a0 < 1 then (some ([] : List (S26))) else (if a0 > 1099511627776 then (some ([] : List (S26))) else (some (([(⟨0, a0, 63⟩ : S26)] : List (S26)))))) = some r := h
  clear h
  by_cases c2 : a0 < 1
  · rw [if_pos c2] at H
    have c2b0 : decide (a0 < 1) = true := decide_eq_true c2
    clear c2
    obtain rfl := Option.some.inj H
    go_enter Try.func11, Try.ntmps11
    go_wp2
    go_ret
    exact ⟨_, by first | rfl | (simp [errW_none, errW_some] <;> rfl) | (simp [*, errW_none, errW_some] <;> rfl), by first | exact Kd.R_nil _ _ _ _ _ | exact Kd.N_nil _ _ _ _ _ | exact Kd.V_nil _ _ _ _ _ | exact Kd.Q_nil _ _ _ _ _ | exact Kd.S_nil _ _ _ _ _, bh_ HB⟩
  · rw [if_neg c2] at H
    have c2b0 : decide (a0 < 1) = false := decide_eq_false c2
    clear c2
    by_cases c3 : a0 > 1099511627776
    · rw [if_pos c3] at H
      have c3b0 : decide (1099511627776 < a0) = true := decide_eq_true c3
      clear c3
      obtain rfl := Option.some.inj H
      go_enter Try.func11, Try.ntmps11
      go_wp2
      go_ret
      exact ⟨_, by first | rfl | (simp [errW_none, errW_some] <;> rfl) | (simp [*, errW_none, errW_some] <;> rfl), by first | exact Kd.R_nil _ _ _ _ _ | exact Kd.N_nil _ _ _ _ _ | exact Kd.V_nil _ _ _ _ _ | exact Kd.Q_nil _ _ _ _ _ | exact Kd.S_nil _ _ _ _ _, bh_ HB⟩
    · rw [if_neg c3] at H
      have c3b0 : decide (1099511627776 < a0) = false := decide_eq_false c3
      clear c3
      obtain ⟨y142, hy142⟩ : ∃ y_ : List (S26), y_ = (([(⟨0, a0, 63⟩ : S26)] : List (S26))) := ⟨_, rfl⟩
      replace H : (some y142) = some r := by first | (rw [hy142]; with_reducible exact H) | (have H2_ := (Option.bind_some _ _).symm.trans H; rw [hy142]; with_reducible exact H2_) | (have H2_ := (Option.bind_some _ _).symm.trans H; with_reducible exact H2_) | with_reducible exact H | (rw [hy142]; exact H) | exact H
      have Ny142 := Aside0.mk hy142
      clear hy142
      obtain rfl := Option.some.inj H
      go_enter Try.func11, Try.ntmps11
      go_wp2_with (first | ((with_reducible refine gate_dst (N := 11) rfl ?_); refine Kd.R_lit k26 _ 26 ?hg (N := 11) ?hd (xs := ([(⟨0, a0, 63⟩ : S26)] : List (S26))) (inner := [.int .i64 0, .int .i64 a0, .int .u8 63]) (ok := fun _ => True) (okp := fun _ => True) ?hr ?hp (fun _ hk => hk) trivial (Below.refl _ _) (Nat.le_refl _) (by simp) ?_; (case hd => rfl); (case hg => rfl); (case hr => first | (go_simp; done) | (go_simp; rfl)); (case hp => exact (Reps.c3 (show Kd.M k26 _ _ _ (⟨0, a0, 63⟩ : S26) [.int .i64 0, .int .i64 a0, .int .u8 63] from (k26_mkM _ _ _ (⟨0, a0, 63⟩ : S26) )) (Reps.none _ _))); intro v143 w4 ho5 hb hg_ hnew_; clear hg_ hnew_; (first | rw [← Ny142.out] at ho5 | (simp only [Int.reduceToNat] at ho5; rw [← Ny142.out] at ho5)); have HO144 := Aside0.mk (Kd.R_lower ho5 (below_size (bh_ HB))); replace HB := bs_ HB hb; clear hb ho5))
      go_ret
      exact ⟨_, by first | rfl | (simp [errW_none, errW_some] <;> rfl) | (simp [*, errW_none, errW_some] <;> rfl), by (with_reducible repeat (first | apply Kd.R_alloc | apply Kd.R_drewN | apply Kd.R_drew)); exact HO144.out, bh_ HB⟩

/-! ### region_First: function 12 -/
def region_First.l0 : Nat → Int → Int → List (S26) → Int → Int → Option (Int × Int × Int × Bool)
 | 0, _, _, _, _, _ => none
 | k + 1, x1, x2, x15, x16, x17 => if x17 < x16 then (if 0 ≤ x17 then (if x17 < (x15.length : Int) then (if ((rd_T26 x15 x17).f2) = x1 then (if (wrap64 (((rd_T26 x15 x17).f0) + ((rd_T26 x15 x17).f1))) > x2 then (some (mx ((rd_T26 x15 x17).f0) x2, wrap64 ((wrap64 (((rd_T26 x15 x17).f0) + ((rd_T26 x15 x17).f1))) - (mx ((rd_T26 x15 x17).f0) x2)), x1, true)) else (region_First.l0 k x1 x2 x15 x16 (wrap64 (x17 + 1)))) else (region_First.l0 k x1 x2 x15 x16 (wrap64 (x17 + 1)))) else (none)) else (none)) else (some (0, 0, 0, false))
def region_First.f (k : Nat) (l0 : List (S26)) (a1 : Int) (a2 : Int) : Option (Int × Int × Int × Bool) := (region_May.f k l0).bind fun t146 => (if t146 = true then (region_First.l0 k a1 a2 l0 (l0.length : Int) 0) else (some (0, 0, 0, false)))
theorem region_First.mono_l : ∀ k, (∀ y0 y1 y2 y3 y4, LeO (region_First.l0 k y0 y1 y2 y3 y4) (region_First.l0 (k + 1) y0 y1 y2 y3 y4))
 | 0 => fun _ _ _ _ _ r h => by simp [region_First.l0] at h
 | k + 1 => by
  have ih0 := region_First.mono_l k
  ·intro y0 y1 y2 y3 y4
   unfold region_First.l0
   repeat' first
   | (with_reducible exact ih0 _ _ _ _ _)
   | (with_reducible exact region_May.mono _ _)
   | (with_reducible exact LeO.refl _)
   | (with_reducible exact LeO.none _)
   | (with_reducible refine LeO.ite ?_ ?_)
   | (with_reducible refine LeO.bind ?_ (fun _ => ?_))
   | exact ih0 _ _ _ _ _
   | exact region_May.mono _ _
   | exact LeO.none _
   | refine LeO.ite ?_ ?_
   | refine LeO.bind ?_ (fun _ => ?_)
theorem region_First.mono : ∀ a0 a1 a2 k, LeO (region_First.f k a0 a1 a2) (region_First.f (k + 1) a0 a1 a2) := by
 intro a0 a1 a2 k
 have ih0 := region_First.mono_l k
 unfold region_First.f
 repeat' first
   | (with_reducible exact ih0 _ _ _ _ _)
   | (with_reducible exact region_May.mono _ _)
   | (with_reducible exact LeO.refl _)
   | (with_reducible exact LeO.none _)
   | (with_reducible refine LeO.ite ?_ ?_)
   | (with_reducible refine LeO.bind ?_ (fun _ => ?_))
   | exact ih0 _ _ _ _ _
   | exact region_May.mono _ _
   | exact LeO.none _
   | refine LeO.ite ?_ ?_
   | refine LeO.bind ?_ (fun _ => ?_)
set_option maxHeartbeats 8000000 in
set_option maxRecDepth 100000 in
theorem region_First.calls (k : Nat) (A0 : Option Addr) (c0 : Nat) (l0 : List (S26)) (a1 : Int) (a2 : Int) (r1 : Int) (r2 : Int) (r3 : Int) (r4 : Bool) (w : World) (hr0 : Kd.C k26 w A0 l0.length l0) (hc0 : l0.length ≤ c0) (h : region_First.f k l0 a1 a2 = some (r1, r2, r3, r4)) :
  Calls Try.prog 12 #[.slice A0 l0.length c0, .int .u8 a1, .int .i64 a2] w fun e w' => e = .returned (.tuple #[.agg #[.int .i64 r1, .int .i64 r2, .int .u8 r3], .bool r4]) ∧ Below w.heap.size w w' := by
 have hu26 := Try.underlying26
 have HR0 := Aside0.mk hr0
 have HC0 := Aside0.mk hc0
 clear hr0 hc0
 have HB := Aside0.mk (Below.refl w.heap.size w)
 have H : ((region_May.f k l0).bind fun t146 => (if t146 = true then (region_First.l0 k a1 a2 l0 (l0.length : Int) 0) else (some (0, 0, 0, false)))) = some (r1, r2, r3, r4) := h
 clear h
 replace H := Option.bind_eq_some_iff.mp H
 obtain ⟨t146, A40, H⟩ := H
 replace H : (if t146 = true then (region_First.l0 k a1 a2 l0 (l0.length : Int) 0) else (some (0, 0, 0, false))) = some (r1, r2, r3, r4) := H
 have A4 := Aside0.mk A40
 clear A40
 by_cases c5 : t146 = true
 ·subst c5
  have H1 : (region_First.l0 k a1 a2 l0 (l0.length : Int) 0) = some (r1, r2, r3, r4) := by rw [if_pos rfl] at H; exact H
  clear H
  have H := H1
  clear H1
  have H' := Aside0.mk H
  clear H
  go_enter Try.func12, Try.ntmps12
  go_wp2_with (first | ((with_reducible refine gate_dst (N := 6) rfl ?_); refine box_e 6 #[.int .i64 0, .int .i64 0, .int .u8 0] 26 ?_; intro gb145 hg w6 hbox hb; have BK145 := Aside0.mk hbox; have GW145 := bg_ HB hg; have GE145 := bg_ HB hg; replace HB := bs_ HB hb; clear hb hbox hg) | ((with_reducible refine gate_callee (f := 16) rfl ?_); refine gl_ (some 12) rfl rfl Try.func16 (by kernel_rfl) rfl #[.slice A0 l0.length c0] rfl ?_; (with_reducible refine (region_May.calls k _ _ l0 true _ ?side1 ?side2 A4.out).mono ?_); (case side1 => exact cb_ HR0 HB); (case side2 => exact HC0.out); rintro e w7 ⟨rfl, hb⟩; refine ⟨_, rfl, ?_⟩; replace BK145 := bb_ BK145 hb; replace HB := bs_ HB hb; (try clear hb)))
  go_loopg [17] k (fun kq v17 w' => ∃ (x17_1 : Int) (x146000_1 : Int) (x146001_1 : Int) (x146002_1 : Int), v17 = .int .i64 x17_1 ∧ Aside0 (region_First.l0 kq a1 a2 l0 (l0.length : Int) x17_1 = some (r1, r2, r3, r4)) ∧ Aside0 (kq ≤ k) ∧ Aside0 (w'.heap[gb145]? = some (.cells #[.int .i64 x146000_1, .int .i64 x146001_1, .int .u8 x146002_1] 26 (0, 0))) ∧ Aside0 (Below w.heap.size w w'))
  case atStart => exact ⟨(0), (0), (0), (0), (by first | rfl | (simp; done) | (simp [*]; done)), H', ⟨Nat.le_refl _⟩, ⟨bq_ BK145⟩, ⟨bh_ HB⟩⟩
  case round =>
   clear H'
   try clear c1
   try clear p2
   try clear c5
   obtain ⟨x17_1, x146000_1, x146001_1, x146002_1, rfl, HA, HK1, BK145, HB⟩ := hrel
   cases gk with
   | zero => exact absurd HA.out (by simp [region_First.l0])
   | succ k1 =>
    have H := HA.out
    clear HA
    simp only [region_First.l0] at H
    by_cases c8 : x17_1 < (l0.length : Int)
    ·rw [if_pos c8] at H
     have c8b0 : decide (x17_1 < (l0.length : Int)) = true := decide_eq_true c8
     clear c8
     by_cases c9 : 0 ≤ x17_1
     ·rw [if_pos c9] at H
      have c9b0 : decide (0 ≤ x17_1) = true := decide_eq_true c9
      clear c9
      by_cases c10 : x17_1 < (l0.length : Int)
      ·rw [if_pos c10] at H
       have c10b0 : decide (x17_1 < (l0.length : Int)) = true := decide_eq_true c10
       clear c10
       by_cases c11 : ((rd_T26 l0 x17_1).f2) = a1
       ·rw [if_pos c11] at H
        have c11b0 : (((rd_T26 l0 x17_1).f2) == a1) = true := beq_iff_eq.mpr c11
        have c11b1 : (((rd_T26 l0 x17_1).f2) != a1) = false := bne_eq_false_iff_eq.mpr c11
        clear c11
        by_cases c12 : (wrap64 (((rd_T26 l0 x17_1).f0) + ((rd_T26 l0 x17_1).f1))) > a2
        ·rw [if_pos c12] at H
         have c12b0 : decide (a2 < (wrap64 (((rd_T26 l0 x17_1).f0) + ((rd_T26 l0 x17_1).f1)))) = true := decide_eq_true c12
         clear c12
         obtain ⟨ji13, hji13⟩ : ∃ j_ : Int, (mx ((rd_T26 l0 x17_1).f0) a2) = j_ := ⟨_, rfl⟩
         replace H : (some (ji13, wrap64 ((wrap64 (((rd_T26 l0 x17_1).f0) + ((rd_T26 l0 x17_1).f1))) - (ji13)), a1, true)) = some (r1, r2, r3, r4) := by first | (rw [hji13] at H; exact H) | (simp only [hji13] at H ⊢; exact H)
         have hji13_ : (if ((rd_T26 l0 x17_1).f0) < a2 then a2 else ((rd_T26 l0 x17_1).f0)) = ji13 := hji13
         simp only [Option.some.injEq, Prod.mk.injEq] at H
         obtain ⟨rfl, rfl, rfl, rfl⟩ := H
         have p147 : 0 ≤ (x17_1 : Int) := of_decide_eq_true (by first | (with_reducible assumption) | assumption)
         have q147 : x17_1 < (l0.length : Int) := of_decide_eq_true (by first | (with_reducible assumption) | assumption)
         obtain ⟨ad147, e147, hx147_0, hx147_1, hx147_2⟩ := at_T26 HR0.out x17_1 p147 q147
         cases e147
         replace hx147_0 := (HB.out.cell (World.block_lt_of_cell? w _ hx147_0)).trans hx147_0
         replace hx147_1 := (HB.out.cell (World.block_lt_of_cell? w _ hx147_1)).trans hx147_1
         replace hx147_2 := (HB.out.cell (World.block_lt_of_cell? w _ hx147_2)).trans hx147_2
         replace p147 := eq_true p147
         replace q147 := eq_true q147
         go_wp2_with (first | ((with_reducible refine gate_dst (N := 9) rfl ?_); refine box_e 9 #[.int .i64 0, .int .i64 0, .int .u8 0] 26 ?_; intro gb148 hg w14 hbox hb; have BK148 := Aside0.mk hbox; have GW148 := bg_ HB hg; have GE148 := bg_ HB hg; have NB145_148 := bn_ BK145 hg; have NB148_145 := bm_ BK145 hg; replace BK145 := bb_ BK145 hb; replace HB := bs_ HB hb; clear hb hbox hg; have hnb15 := NB148_145.out; have hnc15 := NB145_148.out; obtain ⟨hcz16_0, hcz16_1, hcz16_2, hfz16_0, hfz16_1, hfz16_2⟩ := c3_ BK148; obtain ⟨hcz17_0, hcz17_1, hcz17_2, hfz17_0, hfz17_1, hfz17_2⟩ := c3_ BK145))
         refine bodyPost_ret (results_ct rfl _ _ gb145 26 #[.int .i64 ji13, .int .i64 (wrap64 ((wrap64 (((rd_T26 l0 x17_1).f0) + ((rd_T26 l0 x17_1).f1))) - (ji13))), .int .u8 a1] (0, 0) _ rfl (bp_ BK145) Try.underlying26 rfl (by kernel_rfl)) rfl ?_
         exact ⟨by first | rfl | (simp [errW_none, errW_some] <;> rfl) | (simp only [← hji13]; first | rfl | (simp [errW_none, errW_some] <;> rfl)) | (simp [*, errW_none, errW_some] <;> rfl), bh_ HB⟩
        ·rw [if_neg c12] at H
         have c12b0 : decide (a2 < (wrap64 (((rd_T26 l0 x17_1).f0) + ((rd_T26 l0 x17_1).f1)))) = false := decide_eq_false c12
         clear c12
         have H' := Aside0.mk H
         clear H
         have p147 : 0 ≤ (x17_1 : Int) := of_decide_eq_true (by first | (with_reducible assumption) | assumption)
         have q147 : x17_1 < (l0.length : Int) := of_decide_eq_true (by first | (with_reducible assumption) | assumption)
         obtain ⟨ad147, e147, hx147_0, hx147_1, hx147_2⟩ := at_T26 HR0.out x17_1 p147 q147
         cases e147
         replace hx147_0 := (HB.out.cell (World.block_lt_of_cell? w _ hx147_0)).trans hx147_0
         replace hx147_1 := (HB.out.cell (World.block_lt_of_cell? w _ hx147_1)).trans hx147_1
         replace hx147_2 := (HB.out.cell (World.block_lt_of_cell? w _ hx147_2)).trans hx147_2
         replace p147 := eq_true p147
         replace q147 := eq_true q147
         go_wp2_with (first | ((with_reducible refine gate_dst (N := 9) rfl ?_); refine box_e 9 #[.int .i64 0, .int .i64 0, .int .u8 0] 26 ?_; intro gb148 hg w18 hbox hb; have BK148 := Aside0.mk hbox; have GW148 := bg_ HB hg; have GE148 := bg_ HB hg; have NB145_148 := bn_ BK145 hg; have NB148_145 := bm_ BK145 hg; replace BK145 := bb_ BK145 hb; replace HB := bs_ HB hb; clear hb hbox hg; have hnb19 := NB148_145.out; have hnc19 := NB145_148.out; obtain ⟨hcz20_0, hcz20_1, hcz20_2, hfz20_0, hfz20_1, hfz20_2⟩ := c3_ BK148))
         go_roundg k1
         case measure => have := HK1.out; omega
         case rel => exact ⟨(wrap64 (x17_1 + 1)), (x146000_1), (x146001_1), (x146002_1), (by first | rfl | (simp; done) | (simp [*]; done)), H', ⟨by have := HK1.out; omega⟩, ⟨by (with_reducible repeat (first | refine blk_drewN ?_ _ | refine blk_drew ?_ | refine blk_alloc ?_ _)); refine blk_far ?_ NB145_148.out _; (with_reducible repeat (first | refine blk_drewN ?_ _ | refine blk_drew ?_ | refine blk_alloc ?_ _)); refine blk_far ?_ NB145_148.out _; (with_reducible repeat (first | refine blk_drewN ?_ _ | refine blk_drew ?_ | refine blk_alloc ?_ _)); refine blk_far ?_ NB145_148.out _; (with_reducible repeat (first | refine blk_drewN ?_ _ | refine blk_drew ?_ | refine blk_alloc ?_ _)); exact BK145.out⟩, ⟨bh_ HB⟩⟩
       ·rw [if_neg c11] at H
        have c11b0 : (((rd_T26 l0 x17_1).f2) == a1) = false := beq_eq_false_iff_ne.mpr c11
        have c11b1 : (((rd_T26 l0 x17_1).f2) != a1) = true := bne_iff_ne.mpr c11
        have H' := Aside0.mk H
        clear H
        have p147 : 0 ≤ (x17_1 : Int) := of_decide_eq_true (by first | (with_reducible assumption) | assumption)
        have q147 : x17_1 < (l0.length : Int) := of_decide_eq_true (by first | (with_reducible assumption) | assumption)
        obtain ⟨ad147, e147, hx147_0, hx147_1, hx147_2⟩ := at_T26 HR0.out x17_1 p147 q147
        cases e147
        replace hx147_0 := (HB.out.cell (World.block_lt_of_cell? w _ hx147_0)).trans hx147_0
        replace hx147_1 := (HB.out.cell (World.block_lt_of_cell? w _ hx147_1)).trans hx147_1
        replace hx147_2 := (HB.out.cell (World.block_lt_of_cell? w _ hx147_2)).trans hx147_2
        replace p147 := eq_true p147
        replace q147 := eq_true q147
        go_wp2_with (first | ((with_reducible refine gate_dst (N := 9) rfl ?_); refine box_e 9 #[.int .i64 0, .int .i64 0, .int .u8 0] 26 ?_; intro gb148 hg w21 hbox hb; have BK148 := Aside0.mk hbox; have GW148 := bg_ HB hg; have GE148 := bg_ HB hg; have NB145_148 := bn_ BK145 hg; have NB148_145 := bm_ BK145 hg; replace BK145 := bb_ BK145 hb; replace HB := bs_ HB hb; clear hb hbox hg; have hnb22 := NB148_145.out; have hnc22 := NB145_148.out; obtain ⟨hcz23_0, hcz23_1, hcz23_2, hfz23_0, hfz23_1, hfz23_2⟩ := c3_ BK148))
        go_roundg k1
        case measure => have := HK1.out; omega
        case rel => exact ⟨(wrap64 (x17_1 + 1)), (x146000_1), (x146001_1), (x146002_1), (by first | rfl | (simp; done) | (simp [*]; done)), H', ⟨by have := HK1.out; omega⟩, ⟨by (with_reducible repeat (first | refine blk_drewN ?_ _ | refine blk_drew ?_ | refine blk_alloc ?_ _)); refine blk_far ?_ NB145_148.out _; (with_reducible repeat (first | refine blk_drewN ?_ _ | refine blk_drew ?_ | refine blk_alloc ?_ _)); refine blk_far ?_ NB145_148.out _; (with_reducible repeat (first | refine blk_drewN ?_ _ | refine blk_drew ?_ | refine blk_alloc ?_ _)); refine blk_far ?_ NB145_148.out _; (with_reducible repeat (first | refine blk_drewN ?_ _ | refine blk_drew ?_ | refine blk_alloc ?_ _)); exact BK145.out⟩, ⟨bh_ HB⟩⟩
      ·rw [if_neg c10] at H
       exact absurd H (by simp)
     ·rw [if_neg c9] at H
      exact absurd H (by simp)
    ·rw [if_neg c8] at H
     have c8b0 : decide (x17_1 < (l0.length : Int)) = false := decide_eq_false c8
     clear c8
     simp only [Option.some.injEq, Prod.mk.injEq] at H
     obtain ⟨rfl, rfl, rfl, rfl⟩ := H
     obtain ⟨hcz24_0, hcz24_1, hcz24_2, hfz24_0, hfz24_1, hfz24_2⟩ := c3_ BK145
     go_wp2
     refine bodyPost_ret (results_ct rfl _ _ gb145 26 #[.int .i64 0, .int .i64 0, .int .u8 0] (0, 0) _ rfl (bp_ BK145) Try.underlying26 rfl (by kernel_rfl)) rfl ?_
     exact ⟨by first | rfl | (simp [errW_none, errW_some] <;> rfl) | (simp [*, errW_none, errW_some] <;> rfl), bh_ HB⟩
 ·replace c5 := Bool.eq_false_iff.mpr c5
  subst c5
  have H1 : (some (0, 0, 0, false)) = some (r1, r2, r3, r4) := by rw [if_neg (show ¬ (false = true) by decide)] at H; exact H
  clear H
  have H := H1
  clear H1
  simp only [Option.some.injEq, Prod.mk.injEq] at H
  obtain ⟨rfl, rfl, rfl, rfl⟩ := H
  go_enter Try.func12, Try.ntmps12
  go_wp2_with (first | ((with_reducible refine gate_dst (N := 6) rfl ?_); refine box_e 6 #[.int .i64 0, .int .i64 0, .int .u8 0] 26 ?_; intro gb145 hg w25 hbox hb; have BK145 := Aside0.mk hbox; have GW145 := bg_ HB hg; have GE145 := bg_ HB hg; replace HB := bs_ HB hb; clear hb hbox hg) | ((with_reducible refine gate_callee (f := 16) rfl ?_); refine gl_ (some 12) rfl rfl Try.func16 (by kernel_rfl) rfl #[.slice A0 l0.length c0] rfl ?_; (with_reducible refine (region_May.calls k _ _ l0 false _ ?side1 ?side2 A4.out).mono ?_); (case side1 => exact cb_ HR0 HB); (case side2 => exact HC0.out); rintro e w26 ⟨rfl, hb⟩; refine ⟨_, rfl, ?_⟩; replace BK145 := bb_ BK145 hb; replace HB := bs_ HB hb; (try clear hb); obtain ⟨hcz27_0, hcz27_1, hcz27_2, hfz27_0, hfz27_1, hfz27_2⟩ := c3_ BK145))
  refine bodyPost_ret (results_ct rfl _ _ gb145 26 #[.int .i64 0, .int .i64 0, .int .u8 0] (0, 0) _ rfl (bp_ BK145) Try.underlying26 rfl (by kernel_rfl)) rfl ?_
  exact ⟨by first | rfl | (simp [errW_none, errW_some] <;> rfl) | (simp [*, errW_none, errW_some] <;> rfl), bh_ HB⟩

-- none

end Go.Proofs.Ytjgkfnbfjamccaa.P
