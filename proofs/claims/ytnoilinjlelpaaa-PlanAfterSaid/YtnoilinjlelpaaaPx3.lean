/- Laid by a program of this session's own (wip/wprint.py, over the kit's print.py): functions of the given program as plain Lean functions, and that the program's calls come to their answers. -/
import Derived.Test.YtnoilinjlelpaaaPx0
namespace Go.Proofs.Ytnoilinjlelpaaa.P
open Go.RowKit Go.Proofs.YtnoilinjlelpaaaW.PrintWords Go.Proofs.YtnoilinjlelpaaaW.PrintLast Go.Proofs.YtnoilinjlelpaaaW.PrintMore
attribute [local go_sem] max2_int min2_int max_two min_two max_three min_three max_four min_four   -- for this text's walks alone
set_option linter.unusedVariables false
set_option linter.unusedSimpArgs false

/-! ### region_New: function 34 -/
def region_New.f (a0 : Int) : Option ((List (S33))) := if a0 < 1 then (some ([] : List (S33))) else (if a0 > 1099511627776 then (some ([] : List (S33))) else (some (([(⟨0, a0, 63⟩ : S33)] : List (S33)))))
set_option maxHeartbeats 8000000 in
set_option maxRecDepth 100000 in
theorem region_New.calls (a0 : Int) (r : List (S33)) (w : World) (h : region_New.f a0 = some r) :
    Calls Try.prog 34 #[.int .i64 a0] w fun e w' => ∃ v0_ : Value, e = .returned (v0_) ∧ Kd.R k33 33 w' w.heap.size (fun _ => True) v0_ r ∧ Below w.heap.size w w' := by
  have hu33 := Try.underlying33
  have HB := Aside0.mk (Below.refl w.heap.size w)
  have H : (if a0 < 1 then (some ([] : List (S33))) else (if a0 > 1099511627776 then (some ([] : List (S33))) else (some (([(⟨0, a0, 63⟩ : S33)] : List (S33)))))) = some r := h
  clear h
  by_cases c2 : a0 < 1
  · rw [if_pos c2] at H
    have c2b0 : decide (a0 < 1) = true := decide_eq_true c2
    clear c2
    obtain rfl := Option.some.inj H
    go_enter Try.func34, Try.ntmps34
    go_wp2
    go_ret
    exact ⟨_, by first | rfl | (simp [errW_none, errW_some] <;> rfl) | (simp [*, errW_none, errW_some] <;> rfl), by first | exact Kd.R_nil _ _ _ _ _ | exact Kd.N_nil _ _ _ _ _ | exact Kd.V_nil _ _ _ _ _ | exact Kd.Q_nil _ _ _ _ _ | exact Kd.S_nil _ _ _ _ _, bh_ HB⟩
  · rw [if_neg c2] at H
    have c2b0 : decide (a0 < 1) = false := decide_eq_false c2
    clear c2
    by_cases c3 : a0 > 1099511627776
    · rw [if_pos c3] at H
      have c3b0 : decide (1099511627776 < a0) = true := decide_eq_true c3
      clear c3
      obtain rfl := Option.some.inj H
      go_enter Try.func34, Try.ntmps34
      go_wp2
      go_ret
      exact ⟨_, by first | rfl | (simp [errW_none, errW_some] <;> rfl) | (simp [*, errW_none, errW_some] <;> rfl), by first | exact Kd.R_nil _ _ _ _ _ | exact Kd.N_nil _ _ _ _ _ | exact Kd.V_nil _ _ _ _ _ | exact Kd.Q_nil _ _ _ _ _ | exact Kd.S_nil _ _ _ _ _, bh_ HB⟩
    · rw [if_neg c3] at H
      have c3b0 : decide (1099511627776 < a0) = false := decide_eq_false c3
      clear c3
      obtain ⟨y101, hy101⟩ : ∃ y_ : List (S33), y_ = (([(⟨0, a0, 63⟩ : S33)] : List (S33))) := ⟨_, rfl⟩
      replace H : (some y101) = some r := by first | (rw [hy101]; with_reducible exact H) | (have H2_ := (Option.bind_some _ _).symm.trans H; rw [hy101]; with_reducible exact H2_) | (have H2_ := (Option.bind_some _ _).symm.trans H; with_reducible exact H2_) | with_reducible exact H | (rw [hy101]; exact H) | exact H
      have Ny101 := Aside0.mk hy101
      clear hy101
      obtain rfl := Option.some.inj H
      go_enter Try.func34, Try.ntmps34
      go_wp2_with (first | ((with_reducible refine gate_dst (N := 11) rfl ?_); refine Kd.R_lit k33 _ 33 ?hg (N := 11) ?hd (xs := ([(⟨0, a0, 63⟩ : S33)] : List (S33))) (inner := [.int .i64 0, .int .i64 a0, .int .u8 63]) (ok := fun _ => True) (okp := fun _ => True) ?hr ?hp (fun _ hk => hk) trivial (Below.refl _ _) (Nat.le_refl _) (by simp) ?_; (case hd => rfl); (case hg => rfl); (case hr => first | (go_simp; done) | (go_simp; rfl)); (case hp => exact (Reps.c3 (show Kd.M k33 _ _ _ (⟨0, a0, 63⟩ : S33) [.int .i64 0, .int .i64 a0, .int .u8 63] from (k33_mkM _ _ _ (⟨0, a0, 63⟩ : S33) )) (Reps.none _ _))); intro v102 w4 ho5 hb hg_ hnew_; clear hg_ hnew_; (first | rw [← Ny101.out] at ho5 | (simp only [Int.reduceToNat] at ho5; rw [← Ny101.out] at ho5)); have HO103 := Aside0.mk (Kd.R_lower ho5 (below_size (bh_ HB))); replace HB := bs_ HB hb; clear hb ho5))
      go_ret
      exact ⟨_, by first | rfl | (simp [errW_none, errW_some] <;> rfl) | (simp [*, errW_none, errW_some] <;> rfl), by (with_reducible repeat (first | apply Kd.R_alloc | apply Kd.R_drewN | apply Kd.R_drew)); exact HO103.out, bh_ HB⟩

/-! ### plan_Start: function 11 -/
def plan_Start.f (a0 : Int) : Option (Int × Int × Int × (List (S33))) := (region_New.f a0).bind fun t105 => (if (t105.length : Int) = 0 then (some (0, 0, 43, ([] : List (S33)))) else (some (0, 0, 63, t105)))
set_option maxHeartbeats 8000000 in
set_option maxRecDepth 100000 in
theorem plan_Start.calls (a0 : Int) (r1 : Int) (r2 : Int) (r3 : Int) (r4 : List (S33)) (w : World) (h : plan_Start.f a0 = some (r1, r2, r3, r4)) :
  Calls Try.prog 11 #[.int .i64 a0] w fun e w' => ∃ v3_ : Value, e = .returned (.agg #[.int .i64 r1, .int .i64 r2, .int .u8 r3, v3_]) ∧ Kd.R k33 33 w' w.heap.size (fun _ => True) v3_ r4 ∧ Below w.heap.size w w' := by
 have hu26 := Try.underlying26
 have HB := Aside0.mk (Below.refl w.heap.size w)
 have H : ((region_New.f a0).bind fun t105 => (if (t105.length : Int) = 0 then (some (0, 0, 43, ([] : List (S33)))) else (some (0, 0, 63, t105)))) = some (r1, r2, r3, r4) := h
 clear h
 replace H := Option.bind_eq_some_iff.mp H
 obtain ⟨t105, A20, H⟩ := H
 replace H : (if (t105.length : Int) = 0 then (some (0, 0, 43, ([] : List (S33)))) else (some (0, 0, 63, t105))) = some (r1, r2, r3, r4) := H
 have A2 := Aside0.mk A20
 clear A20
 by_cases c3 : (t105.length : Int) = 0
 ·rw [if_pos c3] at H
  have c3b0 : ((t105.length : Int) == 0) = true := beq_iff_eq.mpr c3
  have c3b1 : ((t105.length : Int) != 0) = false := bne_eq_false_iff_eq.mpr c3
  clear c3
  simp only [Option.some.injEq, Prod.mk.injEq] at H
  obtain ⟨rfl, rfl, rfl, rfl⟩ := H
  go_enter Try.func11, Try.ntmps11
  go_wp2_with (first | ((with_reducible refine gate_dst (N := 2) rfl ?_); refine box_e 2 #[.int .i64 0, .int .i64 0, .int .u8 0, .slice none 0 0] 26 ?_; intro gb104 hg w4 hbox hb; have BK104 := Aside0.mk hbox; have GW104 := bg_ HB hg; have GE104 := bg_ HB hg; replace HB := bs_ HB hb; clear hb hbox hg) | ((with_reducible refine gate_callee (f := 34) rfl ?_); refine gl_ (some 5) rfl rfl Try.func34 (by kernel_rfl) rfl #[.int .i64 a0] rfl ?_; (with_reducible refine (region_New.calls a0 t105 _ A2.out).mono ?_); rintro e w5 ⟨v106, rfl, ho0, hb⟩; refine ⟨_, rfl, ?_⟩; have HO107 := Aside0.mk (Kd.R_lower ho0 (below_size (bh_ HB))); replace BK104 := bb_ BK104 hb; replace HB := bs_ HB hb; (try clear hb); (try clear hb2); (try clear hk); (try clear hi); (try clear ho0); obtain ⟨Ao6, co6, eo6⟩ := Kd.R_slice HO107.out; subst eo6; obtain ⟨hcz7_0, hcz7_1, hcz7_2, hcz7_3, hfz7_0, hfz7_1, hfz7_2, hfz7_3⟩ := c4_ BK104))
  refine bodyPost_ret (results_cell_row rfl _ _ gb104 26 #[.int .i64 0, .int .i64 0, .int .u8 43, .slice none 0 0] (0, 0) _ rfl (bp_ BK104) Try.underlying26 rfl (by kernel_rfl)) rfl ?_
  exact ⟨_, by first | rfl | (simp [errW_none, errW_some] <;> rfl) | (simp [*, errW_none, errW_some] <;> rfl), by first | exact Kd.R_nil _ _ _ _ _ | exact Kd.N_nil _ _ _ _ _ | exact Kd.V_nil _ _ _ _ _ | exact Kd.Q_nil _ _ _ _ _ | exact Kd.S_nil _ _ _ _ _, bh_ HB⟩
 ·rw [if_neg c3] at H
  have c3b0 : ((t105.length : Int) == 0) = false := beq_eq_false_iff_ne.mpr c3
  have c3b1 : ((t105.length : Int) != 0) = true := bne_iff_ne.mpr c3
  have c3b2 : ¬ (t105 = []) := fun h_ => c3 (by rw [h_]; rfl)
  simp only [Option.some.injEq, Prod.mk.injEq] at H
  obtain ⟨rfl, rfl, rfl, rfl⟩ := H
  go_enter Try.func11, Try.ntmps11
  go_wp2_with (first | ((with_reducible refine gate_dst (N := 2) rfl ?_); refine box_e 2 #[.int .i64 0, .int .i64 0, .int .u8 0, .slice none 0 0] 26 ?_; intro gb104 hg w8 hbox hb; have BK104 := Aside0.mk hbox; have GW104 := bg_ HB hg; have GE104 := bg_ HB hg; replace HB := bs_ HB hb; clear hb hbox hg) | ((with_reducible refine gate_callee (f := 34) rfl ?_); refine gl_ (some 5) rfl rfl Try.func34 (by kernel_rfl) rfl #[.int .i64 a0] rfl ?_; (with_reducible refine (region_New.calls a0 t105 _ A2.out).mono ?_); rintro e w9 ⟨v106, rfl, ho0, hb⟩; refine ⟨_, rfl, ?_⟩; have HO107 := Aside0.mk (Kd.R_lower ho0 (below_size (bh_ HB))); replace BK104 := bb_ BK104 hb; replace HB := bs_ HB hb; (try clear hb); (try clear hb2); (try clear hk); (try clear hi); (try clear ho0); obtain ⟨Ao10, co10, eo10⟩ := Kd.R_slice HO107.out; subst eo10; obtain ⟨hcz11_0, hcz11_1, hcz11_2, hcz11_3, hfz11_0, hfz11_1, hfz11_2, hfz11_3⟩ := c4_ BK104))
  refine bodyPost_ret (results_cell_row rfl _ _ gb104 26 #[.int .i64 0, .int .i64 0, .int .u8 63, .slice Ao10 t105.length co10] (0, 0) _ rfl (bp_ BK104) Try.underlying26 rfl (by kernel_rfl)) rfl ?_
  exact ⟨_, by first | rfl | (simp [errW_none, errW_some] <;> rfl) | (simp [*, errW_none, errW_some] <;> rfl), by (with_reducible repeat (first | apply Kd.R_alloc | apply Kd.R_drewN | apply Kd.R_drew)); exact Kd.R_mono (Kd.R_far (p := ⟨gb104, 3, none⟩) (Kd.R_far (p := ⟨gb104, 2, none⟩) (Kd.R_far (p := ⟨gb104, 1, none⟩) (Kd.R_far (p := ⟨gb104, 0, none⟩) (Kd.R_types HO107.out BK104.out (by decide)) (fun _ hk => hk.2) (.int .i64 0)) (fun _ hk => hk.2) (.int .i64 0)) (fun _ hk => hk.2) (.int .u8 63)) (fun _ hk => hk.2) (.slice Ao10 t105.length co10)) (fun _ hk => trivial), bh_ HB⟩

/-! ### plan_May: function 14 -/
def plan_May.f (a0_0 : Int) (a0_1 : Int) (a0_2 : Bool) : Option (Bool) := if a0_0 ≥ 1 then (if a0_0 ≤ 512 then (if a0_1 ≥ 0 then (some (decide (a0_1 ≤ 20))) else (some false)) else (some false)) else (some false)
set_option maxHeartbeats 8000000 in
set_option maxRecDepth 100000 in
theorem plan_May.calls (a0_0 : Int) (a0_1 : Int) (a0_2 : Bool) (r : Bool) (w : World) (h : plan_May.f a0_0 a0_1 a0_2 = some r) :
    Calls Try.prog 14 #[.agg #[.int .i64 a0_0, .int .i64 a0_1, .bool a0_2]] w fun e w' => e = .returned (.bool r) ∧ Below w.heap.size w w' := by
  have hu23 := Try.underlying23
  have HB := Aside0.mk (Below.refl w.heap.size w)
  have H : (if a0_0 ≥ 1 then (if a0_0 ≤ 512 then (if a0_1 ≥ 0 then (some (decide (a0_1 ≤ 20))) else (some false)) else (some false)) else (some false)) = some r := h
  clear h
  by_cases c2 : a0_0 ≥ 1
  · rw [if_pos c2] at H
    have c2b0 : decide (1 ≤ a0_0) = true := decide_eq_true c2
    clear c2
    by_cases c3 : a0_0 ≤ 512
    · rw [if_pos c3] at H
      have c3b0 : decide (a0_0 ≤ 512) = true := decide_eq_true c3
      clear c3
      by_cases c4 : a0_1 ≥ 0
      · rw [if_pos c4] at H
        have c4b0 : decide (0 ≤ a0_1) = true := decide_eq_true c4
        clear c4
        obtain rfl := Option.some.inj H
        go_enter Try.func14, Try.ntmps14
        go_wp2_with (first | ((with_reducible refine gate_dst (N := 1) rfl ?_); refine box_e 1 #[.int .i64 a0_0, .int .i64 a0_1, .bool a0_2] 23 ?_; intro gb108 hg w5 hbox hb; have BK108 := Aside0.mk hbox; have GW108 := bg_ HB hg; have GE108 := bg_ HB hg; replace HB := bs_ HB hb; clear hb hbox hg; obtain ⟨hcz6_0, hcz6_1, hcz6_2, hfz6_0, hfz6_1, hfz6_2⟩ := c3_ BK108))
        go_ret
        exact ⟨by first | rfl | (simp [errW_none, errW_some] <;> rfl) | (simp [*, errW_none, errW_some] <;> rfl), bh_ HB⟩
      · rw [if_neg c4] at H
        have c4b0 : decide (0 ≤ a0_1) = false := decide_eq_false c4
        clear c4
        obtain rfl := Option.some.inj H
        go_enter Try.func14, Try.ntmps14
        go_wp2_with (first | ((with_reducible refine gate_dst (N := 1) rfl ?_); refine box_e 1 #[.int .i64 a0_0, .int .i64 a0_1, .bool a0_2] 23 ?_; intro gb108 hg w7 hbox hb; have BK108 := Aside0.mk hbox; have GW108 := bg_ HB hg; have GE108 := bg_ HB hg; replace HB := bs_ HB hb; clear hb hbox hg; obtain ⟨hcz8_0, hcz8_1, hcz8_2, hfz8_0, hfz8_1, hfz8_2⟩ := c3_ BK108))
        go_ret
        exact ⟨by first | rfl | (simp [errW_none, errW_some] <;> rfl) | (simp [*, errW_none, errW_some] <;> rfl), bh_ HB⟩
    · rw [if_neg c3] at H
      have c3b0 : decide (a0_0 ≤ 512) = false := decide_eq_false c3
      clear c3
      obtain rfl := Option.some.inj H
      go_enter Try.func14, Try.ntmps14
      go_wp2_with (first | ((with_reducible refine gate_dst (N := 1) rfl ?_); refine box_e 1 #[.int .i64 a0_0, .int .i64 a0_1, .bool a0_2] 23 ?_; intro gb108 hg w9 hbox hb; have BK108 := Aside0.mk hbox; have GW108 := bg_ HB hg; have GE108 := bg_ HB hg; replace HB := bs_ HB hb; clear hb hbox hg; obtain ⟨hcz10_0, hcz10_1, hcz10_2, hfz10_0, hfz10_1, hfz10_2⟩ := c3_ BK108))
      go_ret
      exact ⟨by first | rfl | (simp [errW_none, errW_some] <;> rfl) | (simp [*, errW_none, errW_some] <;> rfl), bh_ HB⟩
  · rw [if_neg c2] at H
    have c2b0 : decide (1 ≤ a0_0) = false := decide_eq_false c2
    clear c2
    obtain rfl := Option.some.inj H
    go_enter Try.func14, Try.ntmps14
    go_wp2_with (first | ((with_reducible refine gate_dst (N := 1) rfl ?_); refine box_e 1 #[.int .i64 a0_0, .int .i64 a0_1, .bool a0_2] 23 ?_; intro gb108 hg w11 hbox hb; have BK108 := Aside0.mk hbox; have GW108 := bg_ HB hg; have GE108 := bg_ HB hg; replace HB := bs_ HB hb; clear hb hbox hg; obtain ⟨hcz12_0, hcz12_1, hcz12_2, hfz12_0, hfz12_1, hfz12_2⟩ := c3_ BK108))
    go_ret
    exact ⟨by first | rfl | (simp [errW_none, errW_some] <;> rfl) | (simp [*, errW_none, errW_some] <;> rfl), bh_ HB⟩

/-! ### region_Is: function 46 -/
def region_Is.f (a0 : Int) : Option (Bool) := if a0 = 63 then (some true) else (if a0 = 42 then (some true) else (if a0 = 47 then (some true) else (if a0 = 45 then (some true) else (if a0 = 43 then (some true) else (some false)))))
set_option maxHeartbeats 8000000 in
set_option maxRecDepth 100000 in
theorem region_Is.calls (a0 : Int) (r : Bool) (w : World) (h : region_Is.f a0 = some r) :
  Calls Try.prog 46 #[.int .u8 a0] w fun e w' => e = .returned (.bool r) ∧ Drawn0 w w' := by
 have H : (if a0 = 63 then (some true) else (if a0 = 42 then (some true) else (if a0 = 47 then (some true) else (if a0 = 45 then (some true) else (if a0 = 43 then (some true) else (some false)))))) = some r := h
 clear h
 by_cases c2 : a0 = 63
 ·rw [if_pos c2] at H
  have c2b0 : (a0 == 63) = true := beq_iff_eq.mpr c2
  have c2b1 : (a0 != 63) = false := bne_eq_false_iff_eq.mpr c2
  clear c2
  obtain rfl := Option.some.inj H
  go_enter Try.func46, Try.ntmps46
  go_wp2
  go_ret
  exact ⟨by first | rfl | (simp; done) | (simp [*]; done), by repeat (first | exact Drawn0.refl _ | apply Drawn0.step)⟩
 ·rw [if_neg c2] at H
  have c2b0 : (a0 == 63) = false := beq_eq_false_iff_ne.mpr c2
  have c2b1 : (a0 != 63) = true := bne_iff_ne.mpr c2
  by_cases c3 : a0 = 42
  ·rw [if_pos c3] at H
   have c3b0 : (a0 == 42) = true := beq_iff_eq.mpr c3
   have c3b1 : (a0 != 42) = false := bne_eq_false_iff_eq.mpr c3
   clear c3
   obtain rfl := Option.some.inj H
   go_enter Try.func46, Try.ntmps46
   go_wp2
   go_ret
   exact ⟨by first | rfl | (simp; done) | (simp [*]; done), by repeat (first | exact Drawn0.refl _ | apply Drawn0.step)⟩
  ·rw [if_neg c3] at H
   have c3b0 : (a0 == 42) = false := beq_eq_false_iff_ne.mpr c3
   have c3b1 : (a0 != 42) = true := bne_iff_ne.mpr c3
   by_cases c4 : a0 = 47
   ·rw [if_pos c4] at H
    have c4b0 : (a0 == 47) = true := beq_iff_eq.mpr c4
    have c4b1 : (a0 != 47) = false := bne_eq_false_iff_eq.mpr c4
    clear c4
    obtain rfl := Option.some.inj H
    go_enter Try.func46, Try.ntmps46
    go_wp2
    go_ret
    exact ⟨by first | rfl | (simp; done) | (simp [*]; done), by repeat (first | exact Drawn0.refl _ | apply Drawn0.step)⟩
   ·rw [if_neg c4] at H
    have c4b0 : (a0 == 47) = false := beq_eq_false_iff_ne.mpr c4
    have c4b1 : (a0 != 47) = true := bne_iff_ne.mpr c4
    by_cases c5 : a0 = 45
    ·rw [if_pos c5] at H
     have c5b0 : (a0 == 45) = true := beq_iff_eq.mpr c5
     have c5b1 : (a0 != 45) = false := bne_eq_false_iff_eq.mpr c5
     clear c5
     obtain rfl := Option.some.inj H
     go_enter Try.func46, Try.ntmps46
     go_wp2
     go_ret
     exact ⟨by first | rfl | (simp; done) | (simp [*]; done), by repeat (first | exact Drawn0.refl _ | apply Drawn0.step)⟩
    ·rw [if_neg c5] at H
     have c5b0 : (a0 == 45) = false := beq_eq_false_iff_ne.mpr c5
     have c5b1 : (a0 != 45) = true := bne_iff_ne.mpr c5
     by_cases c6 : a0 = 43
     ·rw [if_pos c6] at H
      have c6b0 : (a0 == 43) = true := beq_iff_eq.mpr c6
      have c6b1 : (a0 != 43) = false := bne_eq_false_iff_eq.mpr c6
      clear c6
      obtain rfl := Option.some.inj H
      go_enter Try.func46, Try.ntmps46
      go_wp2
      go_ret
      exact ⟨by first | rfl | (simp; done) | (simp [*]; done), by repeat (first | exact Drawn0.refl _ | apply Drawn0.step)⟩
     ·rw [if_neg c6] at H
      have c6b0 : (a0 == 43) = false := beq_eq_false_iff_ne.mpr c6
      have c6b1 : (a0 != 43) = true := bne_iff_ne.mpr c6
      obtain rfl := Option.some.inj H
      go_enter Try.func46, Try.ntmps46
      go_wp2
      go_ret
      exact ⟨by first | rfl | (simp; done) | (simp [*]; done), by repeat (first | exact Drawn0.refl _ | apply Drawn0.step)⟩

end Go.Proofs.Ytnoilinjlelpaaa.P
