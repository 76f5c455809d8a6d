/- Laid by a program of this session's own (wip/wprint.py, over the kit's print.py): functions of the given program as plain Lean functions, and that the program's calls come to their answers. -/
import Derived.Test.YtnoilinjlelpaaaPx0
import Derived.Test.YtnoilinjlelpaaaPx3
import Derived.Test.YtnoilinjlelpaaaPx6
import Derived.Test.YtnoilinjlelpaaaPx7
import Derived.Test.YtnoilinjlelpaaaPx14
import Derived.Test.YtnoilinjlelpaaaPx17
namespace Go.Proofs.Ytnoilinjlelpaaa.P
open Go.RowKit Go.Proofs.YtnoilinjlelpaaaW.PrintWords Go.Proofs.YtnoilinjlelpaaaW.PrintLast Go.Proofs.YtnoilinjlelpaaaW.PrintMore
attribute [local go_sem] max2_int min2_int max_two min_two max_three min_three max_four min_four   -- for this text's walks alone
set_option linter.unusedVariables false
set_option linter.unusedSimpArgs false

/-! ### salvorref16_NewRegions: function 50 -/
def salvorref16_NewRegions.f (a0 : Int) : Option ((List (S33))) := if a0 < 1 then (some ([] : List (S33))) else (if a0 > 1099511627776 then (some ([] : List (S33))) else (some (([(⟨0, a0, 63⟩ : S33)] : List (S33)))))
set_option maxHeartbeats 8000000 in
set_option maxRecDepth 100000 in
theorem salvorref16_NewRegions.calls (a0 : Int) (r : List (S33)) (w : World) (h : salvorref16_NewRegions.f a0 = some r) :
    Calls Try.prog 50 #[.int .i64 a0] w fun e w' => ∃ v0_ : Value, e = .returned (v0_) ∧ Kd.R k33 33 w' w.heap.size (fun _ => True) v0_ r ∧ Below w.heap.size w w' := by
  have hu33 := Try.underlying33
  have HB := Aside0.mk (Below.refl w.heap.size w)
  have H : (if a0 < 1 then (some ([] : List (S33))) else (if a0 > 1099511627776 then (some ([] : List (S33))) else (some (([(⟨0, a0, 63⟩ : S33)] : List (S33)))))) = some r := h
  clear h
  by_cases c2 : a0 < 1
  · rw [if_pos c2] at H
    have c2b0 : decide (a0 < 1) = true := decide_eq_true c2
    clear c2
    obtain rfl := Option.some.inj H
    go_enter Try.func50, Try.ntmps50
    go_wp2
    go_ret
    exact ⟨_, by first | rfl | (simp [errW_none, errW_some] <;> rfl) | (simp [*, errW_none, errW_some] <;> rfl), by first | exact Kd.R_nil _ _ _ _ _ | exact Kd.N_nil _ _ _ _ _ | exact Kd.V_nil _ _ _ _ _ | exact Kd.Q_nil _ _ _ _ _ | exact Kd.S_nil _ _ _ _ _, bh_ HB⟩
  · rw [if_neg c2] at H
    have c2b0 : decide (a0 < 1) = false := decide_eq_false c2
    clear c2
    by_cases c3 : a0 > 1099511627776
    · rw [if_pos c3] at H
      have c3b0 : decide (1099511627776 < a0) = true := decide_eq_true c3
      clear c3
      obtain rfl := Option.some.inj H
      go_enter Try.func50, Try.ntmps50
      go_wp2
      go_ret
      exact ⟨_, by first | rfl | (simp [errW_none, errW_some] <;> rfl) | (simp [*, errW_none, errW_some] <;> rfl), by first | exact Kd.R_nil _ _ _ _ _ | exact Kd.N_nil _ _ _ _ _ | exact Kd.V_nil _ _ _ _ _ | exact Kd.Q_nil _ _ _ _ _ | exact Kd.S_nil _ _ _ _ _, bh_ HB⟩
    · rw [if_neg c3] at H
      have c3b0 : decide (1099511627776 < a0) = false := decide_eq_false c3
      clear c3
      obtain ⟨y622, hy622⟩ : ∃ y_ : List (S33), y_ = (([(⟨0, a0, 63⟩ : S33)] : List (S33))) := ⟨_, rfl⟩
      replace H : (some y622) = some r := by first | (rw [hy622]; with_reducible exact H) | (have H2_ := (Option.bind_some _ _).symm.trans H; rw [hy622]; with_reducible exact H2_) | (have H2_ := (Option.bind_some _ _).symm.trans H; with_reducible exact H2_) | with_reducible exact H | (rw [hy622]; exact H) | exact H
      have Ny622 := Aside0.mk hy622
      clear hy622
      obtain rfl := Option.some.inj H
      go_enter Try.func50, Try.ntmps50
      go_wp2_with (first | ((with_reducible refine gate_dst (N := 11) rfl ?_); refine Kd.R_lit k33 _ 33 ?hg (N := 11) ?hd (xs := ([(⟨0, a0, 63⟩ : S33)] : List (S33))) (inner := [.int .i64 0, .int .i64 a0, .int .u8 63]) (ok := fun _ => True) (okp := fun _ => True) ?hr ?hp (fun _ hk => hk) trivial (Below.refl _ _) (Nat.le_refl _) (by simp) ?_; (case hd => rfl); (case hg => rfl); (case hr => first | (go_simp; done) | (go_simp; rfl)); (case hp => exact (Reps.c3 (show Kd.M k33 _ _ _ (⟨0, a0, 63⟩ : S33) [.int .i64 0, .int .i64 a0, .int .u8 63] from (k33_mkM _ _ _ (⟨0, a0, 63⟩ : S33) )) (Reps.none _ _))); intro v623 w4 ho5 hb hg_ hnew_; clear hg_ hnew_; (first | rw [← Ny622.out] at ho5 | (simp only [Int.reduceToNat] at ho5; rw [← Ny622.out] at ho5)); have HO624 := Aside0.mk (Kd.R_lower ho5 (below_size (bh_ HB))); replace HB := bs_ HB hb; clear hb ho5))
      go_ret
      exact ⟨_, by first | rfl | (simp [errW_none, errW_some] <;> rfl) | (simp [*, errW_none, errW_some] <;> rfl), by (with_reducible repeat (first | apply Kd.R_alloc | apply Kd.R_drewN | apply Kd.R_drew)); exact HO624.out, bh_ HB⟩

/-! ### salvorref16_Start: function 27 -/
def salvorref16_Start.f (a0 : Int) : Option (Int × Int × Int × (List (S33))) := (salvorref16_NewRegions.f a0).bind fun t626 => (if (t626.length : Int) = 0 then (some (0, 0, 43, t626)) else (some (0, 0, 63, t626)))
set_option maxHeartbeats 8000000 in
set_option maxRecDepth 100000 in
theorem salvorref16_Start.calls (a0 : Int) (r1 : Int) (r2 : Int) (r3 : Int) (r4 : List (S33)) (w : World) (h : salvorref16_Start.f a0 = some (r1, r2, r3, r4)) :
  Calls Try.prog 27 #[.int .i64 a0] w fun e w' => ∃ v3_ : Value, e = .returned (.agg #[.int .i64 r1, .int .i64 r2, .int .u8 r3, v3_]) ∧ Kd.R k33 33 w' w.heap.size (fun _ => True) v3_ r4 ∧ Below w.heap.size w w' := by
 have hu26 := Try.underlying26
 have HB := Aside0.mk (Below.refl w.heap.size w)
 have H : ((salvorref16_NewRegions.f a0).bind fun t626 => (if (t626.length : Int) = 0 then (some (0, 0, 43, t626)) else (some (0, 0, 63, t626)))) = some (r1, r2, r3, r4) := h
 clear h
 replace H := Option.bind_eq_some_iff.mp H
 obtain ⟨t626, A20, H⟩ := H
 replace H : (if (t626.length : Int) = 0 then (some (0, 0, 43, t626)) else (some (0, 0, 63, t626))) = some (r1, r2, r3, r4) := H
 have A2 := Aside0.mk A20
 clear A20
 by_cases c3 : (t626.length : Int) = 0
 ·rw [if_pos c3] at H
  have c3b0 : ((t626.length : Int) == 0) = true := beq_iff_eq.mpr c3
  have c3b1 : ((t626.length : Int) != 0) = false := bne_eq_false_iff_eq.mpr c3
  clear c3
  simp only [Option.some.injEq, Prod.mk.injEq] at H
  obtain ⟨rfl, rfl, rfl, rfl⟩ := H
  go_enter Try.func27, Try.ntmps27
  go_wp2_with (first | ((with_reducible refine gate_dst (N := 2) rfl ?_); refine box_e 2 #[.int .i64 0, .int .i64 0, .int .u8 0, .slice none 0 0] 26 ?_; intro gb625 hg w4 hbox hb; have BK625 := Aside0.mk hbox; have GW625 := bg_ HB hg; have GE625 := bg_ HB hg; replace HB := bs_ HB hb; clear hb hbox hg) | ((with_reducible refine gate_callee (f := 50) rfl ?_); refine gl_ (some 5) rfl rfl Try.func50 (by kernel_rfl) rfl #[.int .i64 a0] rfl ?_; (with_reducible refine (salvorref16_NewRegions.calls a0 t626 _ A2.out).mono ?_); rintro e w5 ⟨v627, rfl, ho0, hb⟩; refine ⟨_, rfl, ?_⟩; have HO628 := Aside0.mk (Kd.R_lower ho0 (below_size (bh_ HB))); replace BK625 := bb_ BK625 hb; replace HB := bs_ HB hb; (try clear hb); (try clear hb2); (try clear hk); (try clear hi); (try clear ho0); obtain ⟨Ao6, co6, eo6⟩ := Kd.R_slice HO628.out; subst eo6) | ((with_reducible refine gate_dst (N := 3) rfl ?_); refine box_e 3 #[.int .i64 0, .int .i64 0, .int .u8 0, .slice none 0 0] 26 ?_; intro gb629 hg w7 hbox hb; have n0_ := Aside0.mk (Kd.R_below (by (with_reducible repeat (first | apply Kd.R_alloc | apply Kd.R_drewN | apply Kd.R_drew)); exact HO628.out) hb); have n1_ := bb_ BK625 hb; have n2_ := bs_ HB hb; have n3_ := Aside0.mk hbox; have n4_ := bg_ HB hg; have n5_ := bg_ HB hg; have n6_ := bn_ BK625 hg; have n7_ := bm_ BK625 hg; clear HO628; clear BK625; clear HB; have HO628 := n0_; have BK625 := n1_; have HB := n2_; have BK629 := n3_; have GW629 := n4_; have GE629 := n5_; have NB625_629 := n6_; have NB629_625 := n7_; clear n0_ n1_ n2_ n3_ n4_ n5_ n6_ n7_; clear hb hbox hg; have hnb8 := NB629_625.out; have hnc8 := NB625_629.out; obtain ⟨hcz9_0, hcz9_1, hcz9_2, hcz9_3, hfz9_0, hfz9_1, hfz9_2, hfz9_3⟩ := c4_ BK629) | ((with_reducible refine gate_store (t := 26) (p := 3) rfl ?_); refine store_event (t := 26) (p := 3) (v := ?vo_w10) (w1 := ((((w7.setCell ⟨gb629, 0, none⟩ (.int .i64 0)).setCell ⟨gb629, 1, none⟩ (.int .i64 0)).setCell ⟨gb629, 2, none⟩ (.int .u8 63)).setCell ⟨gb629, 3, none⟩ (.slice Ao6 t626.length co6))) ?hg ?ho ?hn ?hr ?_; (case ho => rfl); (case hg => rfl); (case hn => rfl); (case hr => first | (go_simp; done) | (go_simp; rfl)); intro w10 hw; have n0_ : Aside0 (Kd.R k33 33 w10 w.heap.size (fun _ => True) (.slice Ao6 t626.length co6) t626) := ⟨(by rw [hw]; exact (by (with_reducible repeat (first | apply Kd.R_alloc | apply Kd.R_drewN | apply Kd.R_drew)); exact Kd.R_mono (Kd.R_far (p := ⟨gb629, 3, none⟩) (Kd.R_far (p := ⟨gb629, 2, none⟩) (Kd.R_far (p := ⟨gb629, 1, none⟩) (Kd.R_far (p := ⟨gb629, 0, none⟩) (Kd.R_types HO628.out BK629.out (by decide)) (fun _ hk => hk.2) (.int .i64 0)) (fun _ hk => hk.2) (.int .i64 0)) (fun _ hk => hk.2) (.int .u8 63)) (fun _ hk => hk.2) (.slice Ao6 t626.length co6)) (fun _ hk => trivial)))⟩; have n1_ : Aside0 (w10.heap[gb625]? = some (.cells #[.int .i64 0, .int .i64 0, .int .u8 0, .slice none 0 0] 26 (0, 0))) := ⟨(by rw [hw]; exact bp_ BK625)⟩; have n2_ : Aside0 (w10.heap[gb629]? = some (.cells #[.int .i64 0, .int .i64 0, .int .u8 63, .slice Ao6 t626.length co6] 26 (0, 0))) := ⟨(by rw [hw]; exact bp_ BK629)⟩; have n3_ : Aside0 (Below w.heap.size w w10) := ⟨(by rw [hw]; exact bh_ HB)⟩; clear hw; clear HO628; clear BK625; clear BK629; clear HB; have HO628 := n0_; have BK625 := n1_; have BK629 := n2_; have HB := n3_; clear n0_ n1_ n2_ n3_; obtain ⟨hcz11_0, hcz11_1, hcz11_2, hcz11_3, hfz11_0, hfz11_1, hfz11_2, hfz11_3⟩ := c4_ BK629) | ((with_reducible refine gate_store (t := 5) (p := 11) rfl ?_); refine store_event (t := 5) (p := 11) (v := ?vo_w12) (w1 := (w10.setCell ⟨gb629, 2, none⟩ (.int .u8 43))) ?hg ?ho ?hn ?hr ?_; (case ho => rfl); (case hg => rfl); (case hn => rfl); (case hr => first | (go_simp; done) | (go_simp; rfl)); intro w12 hw; have n0_ : Aside0 (Kd.R k33 33 w12 w.heap.size (fun _ => True) (.slice Ao6 t626.length co6) t626) := ⟨(by rw [hw]; exact (by (with_reducible repeat (first | apply Kd.R_alloc | apply Kd.R_drewN | apply Kd.R_drew)); exact Kd.R_mono (Kd.R_far (p := ⟨gb629, 2, none⟩) (Kd.R_types HO628.out BK629.out (by decide)) (fun _ hk => hk.2) (.int .u8 43)) (fun _ hk => trivial)))⟩; have n1_ : Aside0 (w12.heap[gb625]? = some (.cells #[.int .i64 0, .int .i64 0, .int .u8 0, .slice none 0 0] 26 (0, 0))) := ⟨(by rw [hw]; exact bp_ BK625)⟩; have n2_ : Aside0 (w12.heap[gb629]? = some (.cells #[.int .i64 0, .int .i64 0, .int .u8 43, .slice Ao6 t626.length co6] 26 (0, 0))) := ⟨(by rw [hw]; exact bp_ BK629)⟩; have n3_ : Aside0 (Below w.heap.size w w12) := ⟨(by rw [hw]; exact bh_ HB)⟩; clear hw; clear HO628; clear BK625; clear BK629; clear HB; have HO628 := n0_; have BK625 := n1_; have BK629 := n2_; have HB := n3_; clear n0_ n1_ n2_ n3_; obtain ⟨hcz13_0, hcz13_1, hcz13_2, hcz13_3, hfz13_0, hfz13_1, hfz13_2, hfz13_3⟩ := c4_ BK629; obtain ⟨hcz14_0, hcz14_1, hcz14_2, hcz14_3, hfz14_0, hfz14_1, hfz14_2, hfz14_3⟩ := c4_ BK625) | ((with_reducible refine gate_store (t := 26) (p := 2) rfl ?_); refine store_event (t := 26) (p := 2) (v := ?vo_w15) (w1 := ((((w12.setCell ⟨gb625, 0, none⟩ (.int .i64 0)).setCell ⟨gb625, 1, none⟩ (.int .i64 0)).setCell ⟨gb625, 2, none⟩ (.int .u8 43)).setCell ⟨gb625, 3, none⟩ (.slice Ao6 t626.length co6))) ?hg ?ho ?hn ?hr ?_; (case ho => rfl); (case hg => rfl); (case hn => rfl); (case hr => first | (go_simp; done) | (go_simp; rfl)); intro w15 hw; have n0_ : Aside0 (Kd.R k33 33 w15 w.heap.size (fun _ => True) (.slice Ao6 t626.length co6) t626) := ⟨(by rw [hw]; exact (by (with_reducible repeat (first | apply Kd.R_alloc | apply Kd.R_drewN | apply Kd.R_drew)); exact Kd.R_mono (Kd.R_far (p := ⟨gb625, 3, none⟩) (Kd.R_far (p := ⟨gb625, 2, none⟩) (Kd.R_far (p := ⟨gb625, 1, none⟩) (Kd.R_far (p := ⟨gb625, 0, none⟩) (Kd.R_types HO628.out BK625.out (by decide)) (fun _ hk => hk.2) (.int .i64 0)) (fun _ hk => hk.2) (.int .i64 0)) (fun _ hk => hk.2) (.int .u8 43)) (fun _ hk => hk.2) (.slice Ao6 t626.length co6)) (fun _ hk => trivial)))⟩; have n1_ : Aside0 (w15.heap[gb625]? = some (.cells #[.int .i64 0, .int .i64 0, .int .u8 43, .slice Ao6 t626.length co6] 26 (0, 0))) := ⟨(by rw [hw]; exact bp_ BK625)⟩; have n2_ : Aside0 (w15.heap[gb629]? = some (.cells #[.int .i64 0, .int .i64 0, .int .u8 43, .slice Ao6 t626.length co6] 26 (0, 0))) := ⟨(by rw [hw]; exact bp_ BK629)⟩; have n3_ : Aside0 (Below w.heap.size w w15) := ⟨(by rw [hw]; exact bh_ HB)⟩; clear hw; clear HO628; clear BK625; clear BK629; clear HB; have HO628 := n0_; have BK625 := n1_; have BK629 := n2_; have HB := n3_; clear n0_ n1_ n2_ n3_))
  refine bodyPost_ret (results_cell_row rfl _ _ gb625 26 #[.int .i64 0, .int .i64 0, .int .u8 43, .slice Ao6 t626.length co6] (0, 0) _ rfl (bq_ BK625) Try.underlying26 rfl (by kernel_rfl)) rfl ?_
  exact ⟨_, by first | rfl | (simp [errW_none, errW_some] <;> rfl) | (simp [*, errW_none, errW_some] <;> rfl), by (with_reducible repeat (first | apply Kd.R_alloc | apply Kd.R_drewN | apply Kd.R_drew)); exact HO628.out, bh_ HB⟩
 ·rw [if_neg c3] at H
  have c3b0 : ((t626.length : Int) == 0) = false := beq_eq_false_iff_ne.mpr c3
  have c3b1 : ((t626.length : Int) != 0) = true := bne_iff_ne.mpr c3
  have c3b2 : ¬ (t626 = []) := fun h_ => c3 (by rw [h_]; rfl)
  simp only [Option.some.injEq, Prod.mk.injEq] at H
  obtain ⟨rfl, rfl, rfl, rfl⟩ := H
  go_enter Try.func27, Try.ntmps27
  go_wp2_with (first | ((with_reducible refine gate_dst (N := 2) rfl ?_); refine box_e 2 #[.int .i64 0, .int .i64 0, .int .u8 0, .slice none 0 0] 26 ?_; intro gb625 hg w16 hbox hb; have BK625 := Aside0.mk hbox; have GW625 := bg_ HB hg; have GE625 := bg_ HB hg; replace HB := bs_ HB hb; clear hb hbox hg) | ((with_reducible refine gate_callee (f := 50) rfl ?_); refine gl_ (some 5) rfl rfl Try.func50 (by kernel_rfl) rfl #[.int .i64 a0] rfl ?_; (with_reducible refine (salvorref16_NewRegions.calls a0 t626 _ A2.out).mono ?_); rintro e w17 ⟨v627, rfl, ho0, hb⟩; refine ⟨_, rfl, ?_⟩; have HO628 := Aside0.mk (Kd.R_lower ho0 (below_size (bh_ HB))); replace BK625 := bb_ BK625 hb; replace HB := bs_ HB hb; (try clear hb); (try clear hb2); (try clear hk); (try clear hi); (try clear ho0); obtain ⟨Ao18, co18, eo18⟩ := Kd.R_slice HO628.out; subst eo18) | ((with_reducible refine gate_dst (N := 3) rfl ?_); refine box_e 3 #[.int .i64 0, .int .i64 0, .int .u8 0, .slice none 0 0] 26 ?_; intro gb629 hg w19 hbox hb; have n0_ := Aside0.mk (Kd.R_below (by (with_reducible repeat (first | apply Kd.R_alloc | apply Kd.R_drewN | apply Kd.R_drew)); exact HO628.out) hb); have n1_ := bb_ BK625 hb; have n2_ := bs_ HB hb; have n3_ := Aside0.mk hbox; have n4_ := bg_ HB hg; have n5_ := bg_ HB hg; have n6_ := bn_ BK625 hg; have n7_ := bm_ BK625 hg; clear HO628; clear BK625; clear HB; have HO628 := n0_; have BK625 := n1_; have HB := n2_; have BK629 := n3_; have GW629 := n4_; have GE629 := n5_; have NB625_629 := n6_; have NB629_625 := n7_; clear n0_ n1_ n2_ n3_ n4_ n5_ n6_ n7_; clear hb hbox hg; have hnb20 := NB629_625.out; have hnc20 := NB625_629.out; obtain ⟨hcz21_0, hcz21_1, hcz21_2, hcz21_3, hfz21_0, hfz21_1, hfz21_2, hfz21_3⟩ := c4_ BK629) | ((with_reducible refine gate_store (t := 26) (p := 3) rfl ?_); refine store_event (t := 26) (p := 3) (v := ?vo_w22) (w1 := ((((w19.setCell ⟨gb629, 0, none⟩ (.int .i64 0)).setCell ⟨gb629, 1, none⟩ (.int .i64 0)).setCell ⟨gb629, 2, none⟩ (.int .u8 63)).setCell ⟨gb629, 3, none⟩ (.slice Ao18 t626.length co18))) ?hg ?ho ?hn ?hr ?_; (case ho => rfl); (case hg => rfl); (case hn => rfl); (case hr => first | (go_simp; done) | (go_simp; rfl)); intro w22 hw; have n0_ : Aside0 (Kd.R k33 33 w22 w.heap.size (fun _ => True) (.slice Ao18 t626.length co18) t626) := ⟨(by rw [hw]; exact (by (with_reducible repeat (first | apply Kd.R_alloc | apply Kd.R_drewN | apply Kd.R_drew)); exact Kd.R_mono (Kd.R_far (p := ⟨gb629, 3, none⟩) (Kd.R_far (p := ⟨gb629, 2, none⟩) (Kd.R_far (p := ⟨gb629, 1, none⟩) (Kd.R_far (p := ⟨gb629, 0, none⟩) (Kd.R_types HO628.out BK629.out (by decide)) (fun _ hk => hk.2) (.int .i64 0)) (fun _ hk => hk.2) (.int .i64 0)) (fun _ hk => hk.2) (.int .u8 63)) (fun _ hk => hk.2) (.slice Ao18 t626.length co18)) (fun _ hk => trivial)))⟩; have n1_ : Aside0 (w22.heap[gb625]? = some (.cells #[.int .i64 0, .int .i64 0, .int .u8 0, .slice none 0 0] 26 (0, 0))) := ⟨(by rw [hw]; exact bp_ BK625)⟩; have n2_ : Aside0 (w22.heap[gb629]? = some (.cells #[.int .i64 0, .int .i64 0, .int .u8 63, .slice Ao18 t626.length co18] 26 (0, 0))) := ⟨(by rw [hw]; exact bp_ BK629)⟩; have n3_ : Aside0 (Below w.heap.size w w22) := ⟨(by rw [hw]; exact bh_ HB)⟩; clear hw; clear HO628; clear BK625; clear BK629; clear HB; have HO628 := n0_; have BK625 := n1_; have BK629 := n2_; have HB := n3_; clear n0_ n1_ n2_ n3_; obtain ⟨hcz23_0, hcz23_1, hcz23_2, hcz23_3, hfz23_0, hfz23_1, hfz23_2, hfz23_3⟩ := c4_ BK629; obtain ⟨hcz24_0, hcz24_1, hcz24_2, hcz24_3, hfz24_0, hfz24_1, hfz24_2, hfz24_3⟩ := c4_ BK625) | ((with_reducible refine gate_store (t := 26) (p := 2) rfl ?_); refine store_event (t := 26) (p := 2) (v := ?vo_w25) (w1 := ((((w22.setCell ⟨gb625, 0, none⟩ (.int .i64 0)).setCell ⟨gb625, 1, none⟩ (.int .i64 0)).setCell ⟨gb625, 2, none⟩ (.int .u8 63)).setCell ⟨gb625, 3, none⟩ (.slice Ao18 t626.length co18))) ?hg ?ho ?hn ?hr ?_; (case ho => rfl); (case hg => rfl); (case hn => rfl); (case hr => first | (go_simp; done) | (go_simp; rfl)); intro w25 hw; have n0_ : Aside0 (Kd.R k33 33 w25 w.heap.size (fun _ => True) (.slice Ao18 t626.length co18) t626) := ⟨(by rw [hw]; exact (by (with_reducible repeat (first | apply Kd.R_alloc | apply Kd.R_drewN | apply Kd.R_drew)); exact Kd.R_mono (Kd.R_far (p := ⟨gb625, 3, none⟩) (Kd.R_far (p := ⟨gb625, 2, none⟩) (Kd.R_far (p := ⟨gb625, 1, none⟩) (Kd.R_far (p := ⟨gb625, 0, none⟩) (Kd.R_types HO628.out BK625.out (by decide)) (fun _ hk => hk.2) (.int .i64 0)) (fun _ hk => hk.2) (.int .i64 0)) (fun _ hk => hk.2) (.int .u8 63)) (fun _ hk => hk.2) (.slice Ao18 t626.length co18)) (fun _ hk => trivial)))⟩; have n1_ : Aside0 (w25.heap[gb625]? = some (.cells #[.int .i64 0, .int .i64 0, .int .u8 63, .slice Ao18 t626.length co18] 26 (0, 0))) := ⟨(by rw [hw]; exact bp_ BK625)⟩; have n2_ : Aside0 (w25.heap[gb629]? = some (.cells #[.int .i64 0, .int .i64 0, .int .u8 63, .slice Ao18 t626.length co18] 26 (0, 0))) := ⟨(by rw [hw]; exact bp_ BK629)⟩; have n3_ : Aside0 (Below w.heap.size w w25) := ⟨(by rw [hw]; exact bh_ HB)⟩; clear hw; clear HO628; clear BK625; clear BK629; clear HB; have HO628 := n0_; have BK625 := n1_; have BK629 := n2_; have HB := n3_; clear n0_ n1_ n2_ n3_))
  refine bodyPost_ret (results_cell_row rfl _ _ gb625 26 #[.int .i64 0, .int .i64 0, .int .u8 63, .slice Ao18 t626.length co18] (0, 0) _ rfl (bq_ BK625) Try.underlying26 rfl (by kernel_rfl)) rfl ?_
  exact ⟨_, by first | rfl | (simp [errW_none, errW_some] <;> rfl) | (simp [*, errW_none, errW_some] <;> rfl), by (with_reducible repeat (first | apply Kd.R_alloc | apply Kd.R_drewN | apply Kd.R_drew)); exact HO628.out, bh_ HB⟩

/-! ### plan_Begin: function 28 -/
def plan_Begin.j0 : Nat → Bool → Int → Int → Bool → Int → Int → Int → List (S33) → Option (Int × Int × Int × (List (S33)))
 | 0, _, _, _, _, _, _, _, _ => none
 | k + 1, x14, x631000, x631001, x631002, x632000, x632001, x632002, x632003 => if x14 = true then (some (x632000, x632001, x632002, x632003)) else ((plan_edge.f k x631000 x631001 x631002 x632000 x632001 x632002 x632003).bind fun t641 => ((plan_status.f k x631000 x631001 x631002 t641 0 x632002 x632003).bind fun t642 => (some (t641, 0, t642, x632003))))
def plan_Begin.f (k : Nat) (a0_0 : Int) (a0_1 : Int) (a0_2 : Bool) (a1_0 : Int) (a1_1 : Int) (a1_2 : Int) (l1_3 : List (S33)) : Option (Int × Int × Int × (List (S33))) := (plan_copied.f a1_0 a1_1 a1_2 l1_3).bind fun bt633 => ((plan_May.f a0_0 a0_1 a0_2).bind fun t639 => (if t639 = true then ((maptext_May.f k bt633.1 bt633.2.1 bt633.2.2.1 bt633.2.2.2).bind fun t640 => (plan_Begin.j0 k (!t640) a0_0 a0_1 a0_2 bt633.1 bt633.2.1 bt633.2.2.1 bt633.2.2.2)) else (plan_Begin.j0 k true a0_0 a0_1 a0_2 bt633.1 bt633.2.1 bt633.2.2.1 bt633.2.2.2)))
theorem plan_Begin.mono_l : ∀ k, (∀ y0 y1 y2 y3 y4 y5 y6 y7, LeO (plan_Begin.j0 k y0 y1 y2 y3 y4 y5 y6 y7) (plan_Begin.j0 (k + 1) y0 y1 y2 y3 y4 y5 y6 y7))
 | 0 => fun _ _ _ _ _ _ _ _ r h => by simp [plan_Begin.j0] at h
 | k + 1 => by
  have ih0 := plan_Begin.mono_l k
  ·intro y0 y1 y2 y3 y4 y5 y6 y7
   unfold plan_Begin.j0
   repeat' first
   | (with_reducible exact ih0 _ _ _ _ _ _ _ _)
   | (with_reducible exact maptext_May.mono _ _ _ _ _)
   | (with_reducible exact plan_edge.mono _ _ _ _ _ _ _ _)
   | (with_reducible exact plan_status.mono _ _ _ _ _ _ _ _)
   | (with_reducible exact LeO.refl _)
   | (with_reducible exact LeO.none _)
   | (with_reducible refine LeO.ite ?_ ?_)
   | (with_reducible refine LeO.bind ?_ (fun _ => ?_))
   | exact ih0 _ _ _ _ _ _ _ _
   | exact maptext_May.mono _ _ _ _ _
   | exact plan_edge.mono _ _ _ _ _ _ _ _
   | exact plan_status.mono _ _ _ _ _ _ _ _
   | exact LeO.none _
   | refine LeO.ite ?_ ?_
   | refine LeO.bind ?_ (fun _ => ?_)
theorem plan_Begin.mono : ∀ a0 a1 a2 a3 a4 a5 a6 k, LeO (plan_Begin.f k a0 a1 a2 a3 a4 a5 a6) (plan_Begin.f (k + 1) a0 a1 a2 a3 a4 a5 a6) := by
 intro a0 a1 a2 a3 a4 a5 a6 k
 have ih0 := plan_Begin.mono_l k
 unfold plan_Begin.f
 repeat' first
   | (with_reducible exact ih0 _ _ _ _ _ _ _ _)
   | (with_reducible exact maptext_May.mono _ _ _ _ _)
   | (with_reducible exact plan_edge.mono _ _ _ _ _ _ _ _)
   | (with_reducible exact plan_status.mono _ _ _ _ _ _ _ _)
   | (with_reducible exact LeO.refl _)
   | (with_reducible exact LeO.none _)
   | (with_reducible refine LeO.ite ?_ ?_)
   | (with_reducible refine LeO.bind ?_ (fun _ => ?_))
   | exact ih0 _ _ _ _ _ _ _ _
   | exact maptext_May.mono _ _ _ _ _
   | exact plan_edge.mono _ _ _ _ _ _ _ _
   | exact plan_status.mono _ _ _ _ _ _ _ _
   | exact LeO.none _
   | refine LeO.ite ?_ ?_
   | refine LeO.bind ?_ (fun _ => ?_)
set_option maxHeartbeats 8000000 in
set_option maxRecDepth 100000 in
theorem plan_Begin.calls (k : Nat) (a0_0 : Int) (a0_1 : Int) (a0_2 : Bool) (a1_0 : Int) (a1_1 : Int) (a1_2 : Int) (A1_3 : Option Addr) (c1_3 : Nat) (l1_3 : List (S33)) (r1 : Int) (r2 : Int) (r3 : Int) (r4 : List (S33)) (w : World) (hr1_3 : Kd.C k33 w A1_3 l1_3.length l1_3) (hc1_3 : l1_3.length ≤ c1_3) (h : plan_Begin.f k a0_0 a0_1 a0_2 a1_0 a1_1 a1_2 l1_3 = some (r1, r2, r3, r4)) :
  Calls Try.prog 28 #[.agg #[.int .i64 a0_0, .int .i64 a0_1, .bool a0_2], .agg #[.int .i64 a1_0, .int .i64 a1_1, .int .u8 a1_2, .slice A1_3 l1_3.length c1_3]] w fun e w' => ∃ v3_ : Value, e = .returned (.agg #[.int .i64 r1, .int .i64 r2, .int .u8 r3, v3_]) ∧ Kd.R k33 33 w' w.heap.size (fun _ => True) v3_ r4 ∧ Below w.heap.size w w' := by
 have hu23 := Try.underlying23
 have hu26 := Try.underlying26
 have HR1_3 := Aside0.mk hr1_3
 have HC1_3 := Aside0.mk hc1_3
 clear hr1_3 hc1_3
 have HB := Aside0.mk (Below.refl w.heap.size w)
 have H : ((plan_copied.f a1_0 a1_1 a1_2 l1_3).bind fun bt633 => ((plan_May.f a0_0 a0_1 a0_2).bind fun t639 => (if t639 = true then ((maptext_May.f k bt633.1 bt633.2.1 bt633.2.2.1 bt633.2.2.2).bind fun t640 => (plan_Begin.j0 k (!t640) a0_0 a0_1 a0_2 bt633.1 bt633.2.1 bt633.2.2.1 bt633.2.2.2)) else (plan_Begin.j0 k true a0_0 a0_1 a0_2 bt633.1 bt633.2.1 bt633.2.2.1 bt633.2.2.2)))) = some (r1, r2, r3, r4) := h
 clear h
 replace H := Option.bind_eq_some_iff.mp H
 obtain ⟨⟨t633, t634, t635, t636⟩, A30, H⟩ := H
 replace H : ((plan_May.f a0_0 a0_1 a0_2).bind fun t639 => (if t639 = true then ((maptext_May.f k t633 t634 t635 t636).bind fun t640 => (plan_Begin.j0 k (!t640) a0_0 a0_1 a0_2 t633 t634 t635 t636)) else (plan_Begin.j0 k true a0_0 a0_1 a0_2 t633 t634 t635 t636))) = some (r1, r2, r3, r4) := H
 have A3 := Aside0.mk A30
 clear A30
 have HC4 := Aside0.mk H
 clear H
 go_enter Try.func28, Try.ntmps28
 go_upto_region 2 with (first | ((with_reducible refine gate_dst (N := 2) rfl ?_); refine box_e 2 #[.int .i64 a0_0, .int .i64 a0_1, .bool a0_2] 23 ?_; intro gb630 hg w5 hbox hb; have BK630 := Aside0.mk hbox; have GW630 := bg_ HB hg; have GE630 := bg_ HB hg; replace HB := bs_ HB hb; clear hb hbox hg) | ((with_reducible refine gate_dst (N := 3) rfl ?_); refine box_e 3 #[.int .i64 a1_0, .int .i64 a1_1, .int .u8 a1_2, .slice A1_3 l1_3.length c1_3] 26 ?_; intro gb631 hg w6 hbox hb; have BK631 := Aside0.mk hbox; have GW631 := bg_ HB hg; have GE631 := bg_ HB hg; have NB630_631 := bn_ BK630 hg; have NB631_630 := bm_ BK630 hg; replace BK630 := bb_ BK630 hb; replace HB := bs_ HB hb; clear hb hbox hg) | ((with_reducible refine gate_dst (N := 4) rfl ?_); refine box_e 4 #[.int .i64 0, .int .i64 0, .int .u8 0, .slice none 0 0] 26 ?_; intro gb632 hg w7 hbox hb; have BK632 := Aside0.mk hbox; have GW632 := bg_ HB hg; have GE632 := bg_ HB hg; have NB630_632 := bn_ BK630 hg; have NB632_630 := bm_ BK630 hg; have NB631_632 := bn_ BK631 hg; have NB632_631 := bm_ BK631 hg; replace BK630 := bb_ BK630 hb; replace BK631 := bb_ BK631 hb; replace HB := bs_ HB hb; clear hb hbox hg; have hnb8 := NB631_630.out; have hnc8 := NB630_631.out; have hnb9 := NB631_632.out; have hnc9 := NB632_631.out; obtain ⟨hcz10_0, hcz10_1, hcz10_2, hcz10_3, hfz10_0, hfz10_1, hfz10_2, hfz10_3⟩ := c4_ BK631) | ((with_reducible refine gate_callee (f := 36) rfl ?_); refine gl_ (some 6) rfl rfl Try.func36 (by kernel_rfl) rfl #[.agg #[.int .i64 a1_0, .int .i64 a1_1, .int .u8 a1_2, .slice A1_3 l1_3.length c1_3]] rfl ?_; (with_reducible refine (plan_copied.calls a1_0 a1_1 a1_2 _ _ l1_3 t633 t634 t635 t636 _ ?side1 ?side2 A3.out).mono ?_); (case side1 => exact cb_ HR1_3 HB); (case side2 => exact HC1_3.out); rintro e w11 ⟨v637, rfl, ho0, hb⟩; refine ⟨_, rfl, ?_⟩; have HO638 := Aside0.mk (Kd.R_lower ho0 (below_size (bh_ HB))); replace BK630 := bb_ BK630 hb; replace BK631 := bb_ BK631 hb; replace BK632 := bb_ BK632 hb; replace HB := bs_ HB hb; (try clear hb); (try clear hb2); (try clear hk); (try clear hi); (try clear ho0); obtain ⟨hcz12_0, hcz12_1, hcz12_2, hcz12_3, hfz12_0, hfz12_1, hfz12_2, hfz12_3⟩ := c4_ BK631; obtain ⟨Ao13, co13, eo13⟩ := Kd.R_slice HO638.out; subst eo13))
 (try simp only [Act.put, List.setIfInBounds_toArray, List.set_cons_zero, List.set_cons_succ])
 go_cut [14] (fun v14 wc => ∃ (kq : Nat) (x14_3 : Bool), v14 = .bool x14_3 ∧ Aside0 (plan_Begin.j0 kq x14_3 a0_0 a0_1 a0_2 t633 t634 t635 t636 = some (r1, r2, r3, r4)) ∧ Aside0 (kq ≤ k) ∧ Aside0 (Kd.R k33 33 wc w.heap.size (fun _ => True) (.slice Ao13 t636.length co13) t636) ∧ Aside0 (wc.heap[gb630]? = some (.cells #[.int .i64 a0_0, .int .i64 a0_1, .bool a0_2] 23 (0, 0))) ∧ Aside0 (wc.heap[gb631]? = some (.cells #[.int .i64 t633, .int .i64 t634, .int .u8 t635, (.slice Ao13 t636.length co13)] 26 (0, 0))) ∧ Aside0 (wc.heap[gb632]? = some (.cells #[.int .i64 0, .int .i64 0, .int .u8 0, (.slice none 0 0)] 26 (0, 0))) ∧ Aside0 (Below w.heap.size w wc))
 case first =>
  have H := HC4.out
  clear HC4
  replace H := Option.bind_eq_some_iff.mp H
  obtain ⟨t639, A140, H⟩ := H
  replace H : (if t639 = true then ((maptext_May.f k t633 t634 t635 t636).bind fun t640 => (plan_Begin.j0 k (!t640) a0_0 a0_1 a0_2 t633 t634 t635 t636)) else (plan_Begin.j0 k true a0_0 a0_1 a0_2 t633 t634 t635 t636)) = some (r1, r2, r3, r4) := H
  have A14 := Aside0.mk A140
  clear A140
  by_cases c15 : t639 = true
  ·subst c15
   have H1 : ((maptext_May.f k t633 t634 t635 t636).bind fun t640 => (plan_Begin.j0 k (!t640) a0_0 a0_1 a0_2 t633 t634 t635 t636)) = some (r1, r2, r3, r4) := by rw [if_pos rfl] at H; exact H
   clear H
   have H := H1
   clear H1
   replace H := Option.bind_eq_some_iff.mp H
   obtain ⟨t640, A160, H⟩ := H
   replace H : (plan_Begin.j0 k (!t640) a0_0 a0_1 a0_2 t633 t634 t635 t636) = some (r1, r2, r3, r4) := H
   have A16 := Aside0.mk A160
   clear A160
   have H' := Aside0.mk H
   clear H
   have hnb17 := NB630_631.out
   have hnc17 := NB631_630.out
   have hnb18 := NB630_632.out
   have hnc18 := NB632_630.out
   obtain ⟨hcz19_0, hcz19_1, hcz19_2, hfz19_0, hfz19_1, hfz19_2⟩ := c3_ BK630
   go_wp2_with (first | ((with_reducible refine gate_callee (f := 14) rfl ?_); refine gl_ (some 8) rfl rfl Try.func14 (by kernel_rfl) rfl #[.agg #[.int .i64 a0_0, .int .i64 a0_1, .bool a0_2]] rfl ?_; (with_reducible refine (plan_May.calls a0_0 a0_1 a0_2 true _ A14.out).mono ?_); rintro e w20 ⟨rfl, hb⟩; refine ⟨_, rfl, ?_⟩; have n0_ := Aside0.mk (Kd.R_below (by (with_reducible repeat (first | apply Kd.R_alloc | apply Kd.R_drewN | apply Kd.R_drew)); exact (Kd.R_mono (Kd.R_far (p := ⟨gb631, 3, none⟩) (Kd.R_far (p := ⟨gb631, 2, none⟩) (Kd.R_far (p := ⟨gb631, 1, none⟩) (Kd.R_far (p := ⟨gb631, 0, none⟩) (Kd.R_types HO638.out BK631.out (by decide)) (fun _ hk => hk.2) (.int .i64 t633)) (fun _ hk => hk.2) (.int .i64 t634)) (fun _ hk => hk.2) (.int .u8 t635)) (fun _ hk => hk.2) (.slice Ao13 t636.length co13)) (fun _ h_ => h_.1))) hb); have n1_ := Aside0.mk (blk_below (g := gb630) (o := .cells #[.int .i64 a0_0, .int .i64 a0_1, .bool a0_2] 23 (0, 0)) (bp_ BK630) hb); have n2_ := Aside0.mk (blk_below (g := gb631) (o := .cells #[.int .i64 t633, .int .i64 t634, .int .u8 t635, .slice Ao13 t636.length co13] 26 (0, 0)) (bp_ BK631) hb); have n3_ := Aside0.mk (blk_below (g := gb632) (o := .cells #[.int .i64 0, .int .i64 0, .int .u8 0, .slice none 0 0] 26 (0, 0)) (bp_ BK632) hb); have n4_ := bs_ HB hb; clear HO638; clear BK630; clear BK631; clear BK632; clear HB; have HO638 := n0_; have BK630 := n1_; have BK631 := n2_; have BK632 := n3_; have HB := n4_; clear n0_ n1_ n2_ n3_ n4_; (try clear hb); have hnb21 := NB631_632.out; have hnc21 := NB632_631.out; obtain ⟨hcz22_0, hcz22_1, hcz22_2, hcz22_3, hfz22_0, hfz22_1, hfz22_2, hfz22_3⟩ := c4_ BK631) | (go_at_call 18; (with_reducible refine (maptext_May.calls k t633 t634 t635 _ _ t636 t640 _ ?side1 ?side2 A16.out).mono ?_); (case side1 => repeat (first | exact (Kd.R_reads' HO638.out).2.2 | (with_reducible refine Kd.C_alloc ?_ _) | (with_reducible refine Kd.C_drewN ?_ _) | (with_reducible refine Kd.C_drew ?_))); (case side2 => exact (Kd.R_reads' HO638.out).2.1); rintro e w23 ⟨rfl, hb⟩; have n0_ := Aside0.mk (Kd.R_below (by (with_reducible repeat (first | apply Kd.R_alloc | apply Kd.R_drewN | apply Kd.R_drew)); exact HO638.out) hb); have n1_ := bb_ BK630 hb; have n2_ := bb_ BK631 hb; have n3_ := bb_ BK632 hb; have n4_ := bs_ HB hb; clear HO638; clear BK630; clear BK631; clear BK632; clear HB; have HO638 := n0_; have BK630 := n1_; have BK631 := n2_; have BK632 := n3_; have HB := n4_; clear n0_ n1_ n2_ n3_ n4_; (try clear hb)))
   go_meet
   case rel => exact ⟨_, (!t640), (by first | rfl | (simp; done) | (simp [*]; done)), H', ⟨by first | omega | exact Nat.le_refl _⟩, ⟨by (with_reducible repeat (first | apply Kd.R_alloc | apply Kd.R_drewN | apply Kd.R_drew)); exact HO638.out⟩, ⟨bq_ BK630⟩, ⟨bq_ BK631⟩, ⟨bq_ BK632⟩, ⟨bh_ HB⟩⟩
  ·replace c15 := Bool.eq_false_iff.mpr c15
   subst c15
   have H1 : (plan_Begin.j0 k true a0_0 a0_1 a0_2 t633 t634 t635 t636) = some (r1, r2, r3, r4) := by rw [if_neg (show ¬ (false = true) by decide)] at H; exact H
   clear H
   have H := H1
   clear H1
   have H' := Aside0.mk H
   clear H
   have hnb24 := NB630_631.out
   have hnc24 := NB631_630.out
   have hnb25 := NB630_632.out
   have hnc25 := NB632_630.out
   obtain ⟨hcz26_0, hcz26_1, hcz26_2, hfz26_0, hfz26_1, hfz26_2⟩ := c3_ BK630
   go_wp2_with (first | ((with_reducible refine gate_callee (f := 14) rfl ?_); refine gl_ (some 8) rfl rfl Try.func14 (by kernel_rfl) rfl #[.agg #[.int .i64 a0_0, .int .i64 a0_1, .bool a0_2]] rfl ?_; (with_reducible refine (plan_May.calls a0_0 a0_1 a0_2 false _ A14.out).mono ?_); rintro e w27 ⟨rfl, hb⟩; refine ⟨_, rfl, ?_⟩; have n0_ := Aside0.mk (Kd.R_below (by (with_reducible repeat (first | apply Kd.R_alloc | apply Kd.R_drewN | apply Kd.R_drew)); exact (Kd.R_mono (Kd.R_far (p := ⟨gb631, 3, none⟩) (Kd.R_far (p := ⟨gb631, 2, none⟩) (Kd.R_far (p := ⟨gb631, 1, none⟩) (Kd.R_far (p := ⟨gb631, 0, none⟩) (Kd.R_types HO638.out BK631.out (by decide)) (fun _ hk => hk.2) (.int .i64 t633)) (fun _ hk => hk.2) (.int .i64 t634)) (fun _ hk => hk.2) (.int .u8 t635)) (fun _ hk => hk.2) (.slice Ao13 t636.length co13)) (fun _ h_ => h_.1))) hb); have n1_ := Aside0.mk (blk_below (g := gb630) (o := .cells #[.int .i64 a0_0, .int .i64 a0_1, .bool a0_2] 23 (0, 0)) (bp_ BK630) hb); have n2_ := Aside0.mk (blk_below (g := gb631) (o := .cells #[.int .i64 t633, .int .i64 t634, .int .u8 t635, .slice Ao13 t636.length co13] 26 (0, 0)) (bp_ BK631) hb); have n3_ := Aside0.mk (blk_below (g := gb632) (o := .cells #[.int .i64 0, .int .i64 0, .int .u8 0, .slice none 0 0] 26 (0, 0)) (bp_ BK632) hb); have n4_ := bs_ HB hb; clear HO638; clear BK630; clear BK631; clear BK632; clear HB; have HO638 := n0_; have BK630 := n1_; have BK631 := n2_; have BK632 := n3_; have HB := n4_; clear n0_ n1_ n2_ n3_ n4_; (try clear hb)))
   go_meet
   case rel => exact ⟨_, (true), (by first | rfl | (simp; done) | (simp [*]; done)), H', ⟨by first | omega | exact Nat.le_refl _⟩, ⟨by (with_reducible repeat (first | apply Kd.R_alloc | apply Kd.R_drewN | apply Kd.R_drew)); exact HO638.out⟩, ⟨bq_ BK630⟩, ⟨bq_ BK631⟩, ⟨bq_ BK632⟩, ⟨bh_ HB⟩⟩
 case rest =>
  clear HC4
  try clear c1
  try clear c2
  try clear p2
  try clear c3
  try clear c8
  try clear c9
  try clear c14
  try clear c15
  try clear c17
  try clear c18
  try clear c21
  try clear c24
  try clear c25
  try clear hcz10_0 hcz10_1 hcz10_2 hcz10_3
  try clear hcz12_0 hcz12_1 hcz12_2 hcz12_3
  try clear hcz19_0 hcz19_1 hcz19_2
  try clear hcz22_0 hcz22_1 hcz22_2 hcz22_3
  try clear hcz26_0 hcz26_1 hcz26_2
  try clear hfz10_0 hfz10_1 hfz10_2 hfz10_3
  try clear hfz12_0 hfz12_1 hfz12_2 hfz12_3
  try clear hfz19_0 hfz19_1 hfz19_2
  try clear hfz22_0 hfz22_1 hfz22_2 hfz22_3
  try clear hfz26_0 hfz26_1 hfz26_2
  obtain ⟨kq, x14_3, rfl, HA, HJ3, HO_632003, BK630, BK631, BK632, HB⟩ := hcut
  cases kq with
  | zero => exact absurd HA.out (by simp [plan_Begin.j0])
  | succ kj3 =>
   have H := HA.out
   clear HA
   simp only [plan_Begin.j0] at H
   by_cases c28 : x14_3 = true
   ·subst c28
    have H1 : (some (t633, t634, t635, t636)) = some (r1, r2, r3, r4) := by rw [if_pos rfl] at H; exact H
    clear H
    have H := H1
    clear H1
    simp only [Option.some.injEq, Prod.mk.injEq] at H
    obtain ⟨rfl, rfl, rfl, rfl⟩ := H
    have hnb29 := NB631_630.out
    have hnc29 := NB630_631.out
    have hnb30 := NB631_632.out
    have hnc30 := NB632_631.out
    obtain ⟨hcz31_0, hcz31_1, hcz31_2, hcz31_3, hfz31_0, hfz31_1, hfz31_2, hfz31_3⟩ := c4_ BK631
    have hnb32 := NB632_630.out
    have hnc32 := NB630_632.out
    obtain ⟨hcz33_0, hcz33_1, hcz33_2, hcz33_3, hfz33_0, hfz33_1, hfz33_2, hfz33_3⟩ := c4_ BK632
    go_wp2
    refine bodyPost_ret (results_cell_row rfl _ _ gb632 26 #[.int .i64 t633, .int .i64 t634, .int .u8 t635, .slice Ao13 t636.length co13] (0, 0) _ rfl (bp_ BK632) Try.underlying26 rfl (by kernel_rfl)) rfl ?_
    exact ⟨_, by first | rfl | (simp [errW_none, errW_some] <;> rfl) | (simp [*, errW_none, errW_some] <;> rfl), by (with_reducible repeat (first | apply Kd.R_alloc | apply Kd.R_drewN | apply Kd.R_drew)); exact Kd.R_mono (Kd.R_far (p := ⟨gb632, 3, none⟩) (Kd.R_far (p := ⟨gb632, 2, none⟩) (Kd.R_far (p := ⟨gb632, 1, none⟩) (Kd.R_far (p := ⟨gb632, 0, none⟩) (Kd.R_types HO_632003.out BK632.out (by decide)) (fun _ hk => hk.2) (.int .i64 t633)) (fun _ hk => hk.2) (.int .i64 t634)) (fun _ hk => hk.2) (.int .u8 t635)) (fun _ hk => hk.2) (.slice Ao13 t636.length co13)) (fun _ hk => trivial), bh_ HB⟩
   ·replace c28 := Bool.eq_false_iff.mpr c28
    subst c28
    have H1 : ((plan_edge.f kj3 a0_0 a0_1 a0_2 t633 t634 t635 t636).bind fun t641 => ((plan_status.f kj3 a0_0 a0_1 a0_2 t641 0 t635 t636).bind fun t642 => (some (t641, 0, t642, t636)))) = some (r1, r2, r3, r4) := by rw [if_neg (show ¬ (false = true) by decide)] at H; exact H
    clear H
    have H := H1
    clear H1
    replace H := Option.bind_eq_some_iff.mp H
    obtain ⟨t641, A340, H⟩ := H
    replace H : ((plan_status.f kj3 a0_0 a0_1 a0_2 t641 0 t635 t636).bind fun t642 => (some (t641, 0, t642, t636))) = some (r1, r2, r3, r4) := H
    have A34 := Aside0.mk A340
    clear A340
    replace H := Option.bind_eq_some_iff.mp H
    obtain ⟨t642, A350, H⟩ := H
    replace H : (some (t641, 0, t642, t636)) = some (r1, r2, r3, r4) := H
    have A35 := Aside0.mk A350
    clear A350
    simp only [Option.some.injEq, Prod.mk.injEq] at H
    obtain ⟨rfl, rfl, rfl, rfl⟩ := H
    have hnb36 := NB630_631.out
    have hnc36 := NB631_630.out
    have hnb37 := NB630_632.out
    have hnc37 := NB632_630.out
    obtain ⟨hcz38_0, hcz38_1, hcz38_2, hfz38_0, hfz38_1, hfz38_2⟩ := c3_ BK630
    have hnb39 := NB631_632.out
    have hnc39 := NB632_631.out
    obtain ⟨hcz40_0, hcz40_1, hcz40_2, hcz40_3, hfz40_0, hfz40_1, hfz40_2, hfz40_3⟩ := c4_ BK631
    go_wp2_with (first | ((with_reducible refine gate_callee (f := 51) rfl ?_); refine gl_ (some 18) rfl rfl Try.func51 (by kernel_rfl) rfl #[.agg #[.int .i64 a0_0, .int .i64 a0_1, .bool a0_2], .agg #[.int .i64 t633, .int .i64 t634, .int .u8 t635, .slice Ao13 t636.length co13]] rfl ?_; (with_reducible refine (plan_edge.calls kj3 a0_0 a0_1 a0_2 t633 t634 t635 _ _ t636 t641 _ ?side1 ?side2 A34.out).mono ?_); (case side1 => repeat (first | exact (Kd.R_reads' HO_632003.out).2.2 | (with_reducible refine Kd.C_alloc ?_ _) | (with_reducible refine Kd.C_drewN ?_ _) | (with_reducible refine Kd.C_drew ?_))); (case side2 => exact (Kd.R_reads' HO_632003.out).2.1); rintro e w41 ⟨rfl, hb⟩; refine ⟨_, rfl, ?_⟩; have n0_ := Aside0.mk (Kd.R_below (by (with_reducible repeat (first | apply Kd.R_alloc | apply Kd.R_drewN | apply Kd.R_drew)); exact HO_632003.out) hb); have n1_ := bb_ BK630 hb; have n2_ := bb_ BK631 hb; have n3_ := bb_ BK632 hb; have n4_ := bs_ HB hb; clear HO_632003; clear BK630; clear BK631; clear BK632; clear HB; have HO_632003 := n0_; have BK630 := n1_; have BK631 := n2_; have BK632 := n3_; have HB := n4_; clear n0_ n1_ n2_ n3_ n4_; (try clear hb); obtain ⟨hcz42_0, hcz42_1, hcz42_2, hcz42_3, hfz42_0, hfz42_1, hfz42_2, hfz42_3⟩ := c4_ BK631; obtain ⟨hcz43_0, hcz43_1, hcz43_2, hfz43_0, hfz43_1, hfz43_2⟩ := c3_ BK630) | ((with_reducible refine gate_callee (f := 38) rfl ?_); refine gl_ (some 23) rfl rfl Try.func38 (by kernel_rfl) rfl #[.agg #[.int .i64 a0_0, .int .i64 a0_1, .bool a0_2], .agg #[.int .i64 t641, .int .i64 0, .int .u8 t635, .slice Ao13 t636.length co13]] rfl ?_; (with_reducible refine (plan_status.calls kj3 a0_0 a0_1 a0_2 t641 0 t635 _ _ t636 t642 _ ?side1 ?side2 A35.out).mono ?_); (case side1 => refine (Kd.R_reads' (e := 33) (base := w.heap.size) (ok := fun k_ => True) (n := t636.length) (c := co13) ?_).2.2; exact (by (with_reducible repeat (first | apply Kd.R_alloc | apply Kd.R_drewN | apply Kd.R_drew)); exact (Kd.R_mono (Kd.R_far (p := ⟨gb631, 0, none⟩) (Kd.R_far (p := ⟨gb631, 1, none⟩) (Kd.R_types HO_632003.out BK631.out (by decide)) (fun _ hk => hk.2) (.int .i64 0)) (fun _ hk => hk.2) (.int .i64 t641)) (fun _ h_ => h_.1)))); (case side2 => exact (Kd.R_reads' HO_632003.out).2.1); rintro e w44 ⟨rfl, hb⟩; refine ⟨_, rfl, ?_⟩; have n0_ := Aside0.mk (Kd.R_below (by (with_reducible repeat (first | apply Kd.R_alloc | apply Kd.R_drewN | apply Kd.R_drew)); exact (Kd.R_mono (Kd.R_far (p := ⟨gb631, 0, none⟩) (Kd.R_far (p := ⟨gb631, 1, none⟩) (Kd.R_types HO_632003.out BK631.out (by decide)) (fun _ hk => hk.2) (.int .i64 0)) (fun _ hk => hk.2) (.int .i64 t641)) (fun _ h_ => h_.1))) hb); have n1_ := Aside0.mk (blk_below (g := gb630) (o := .cells #[.int .i64 a0_0, .int .i64 a0_1, .bool a0_2] 23 (0, 0)) (bp_ BK630) hb); have n2_ := Aside0.mk (blk_below (g := gb631) (o := .cells #[.int .i64 t641, .int .i64 0, .int .u8 t635, .slice Ao13 t636.length co13] 26 (0, 0)) (bp_ BK631) hb); have n3_ := Aside0.mk (blk_below (g := gb632) (o := .cells #[.int .i64 0, .int .i64 0, .int .u8 0, .slice none 0 0] 26 (0, 0)) (bp_ BK632) hb); have n4_ := bs_ HB hb; clear HO_632003; clear BK630; clear BK631; clear BK632; clear HB; have HO_632003 := n0_; have BK630 := n1_; have BK631 := n2_; have BK632 := n3_; have HB := n4_; clear n0_ n1_ n2_ n3_ n4_; (try clear hb); obtain ⟨hcz45_0, hcz45_1, hcz45_2, hcz45_3, hfz45_0, hfz45_1, hfz45_2, hfz45_3⟩ := c4_ BK631; obtain ⟨hcz46_0, hcz46_1, hcz46_2, hcz46_3, hfz46_0, hfz46_1, hfz46_2, hfz46_3⟩ := c4_ BK632))
    refine bodyPost_ret (results_cell_row rfl _ _ gb632 26 #[.int .i64 t641, .int .i64 0, .int .u8 t642, .slice Ao13 t636.length co13] (0, 0) _ rfl (bp_ BK632) Try.underlying26 rfl (by kernel_rfl)) rfl ?_
    exact ⟨_, by first | rfl | (simp [errW_none, errW_some] <;> rfl) | (simp [*, errW_none, errW_some] <;> rfl), by (with_reducible repeat (first | apply Kd.R_alloc | apply Kd.R_drewN | apply Kd.R_drew)); exact Kd.R_mono (Kd.R_far (p := ⟨gb632, 3, none⟩) (Kd.R_far (p := ⟨gb632, 2, none⟩) (Kd.R_far (p := ⟨gb632, 1, none⟩) (Kd.R_far (p := ⟨gb632, 0, none⟩) (Kd.R_far (p := ⟨gb631, 2, none⟩) (Kd.R_types (Kd.R_types HO_632003.out BK631.out (by decide)) BK632.out (by decide)) (fun _ hk => hk.1.2) (.int .u8 t642)) (fun _ hk => hk.2) (.int .i64 t641)) (fun _ hk => hk.2) (.int .i64 0)) (fun _ hk => hk.2) (.int .u8 t642)) (fun _ hk => hk.2) (.slice Ao13 t636.length co13)) (fun _ hk => trivial), bh_ HB⟩

end Go.Proofs.Ytnoilinjlelpaaa.P
