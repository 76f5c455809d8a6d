/- Laid by a program of this session's own (wip/wprint.py, over the kit's print.py): functions of the given program as plain Lean functions, and that the program's calls come to their answers. -/
import Derived.Test.YtnoilinjlelpaaaPx0
namespace Go.Proofs.Ytnoilinjlelpaaa.P
open Go.RowKit Go.Proofs.YtnoilinjlelpaaaW.PrintWords Go.Proofs.YtnoilinjlelpaaaW.PrintLast Go.Proofs.YtnoilinjlelpaaaW.PrintMore
attribute [local go_sem] max2_int min2_int max_two min_two max_three min_three max_four min_four   -- for this text's walks alone
set_option linter.unusedVariables false
set_option linter.unusedSimpArgs false

/-! ### salvorref16_CopyMap: function 39 -/
def salvorref16_CopyMap.f (a0_0 : Int) (a0_1 : Int) (a0_2 : Int) (l0_3 : List (S33)) : Option (Int × Int × Int × (List (S33))) := if ([] : List (S33)).length + l0_3.length < 5864062014805 then (some (a0_0, a0_1, a0_2, (([] : List (S33)) ++ l0_3))) else (none)
set_option maxHeartbeats 8000000 in
set_option maxRecDepth 100000 in
theorem salvorref16_CopyMap.calls (a0_0 : Int) (a0_1 : Int) (a0_2 : Int) (A0_3 : Option Addr) (c0_3 : Nat) (l0_3 : List (S33)) (r1 : Int) (r2 : Int) (r3 : Int) (r4 : List (S33)) (w : World) (hr0_3 : Kd.C k33 w A0_3 l0_3.length l0_3) (hc0_3 : l0_3.length ≤ c0_3) (h : salvorref16_CopyMap.f a0_0 a0_1 a0_2 l0_3 = some (r1, r2, r3, r4)) :
  Calls Try.prog 39 #[.agg #[.int .i64 a0_0, .int .i64 a0_1, .int .u8 a0_2, .slice A0_3 l0_3.length c0_3]] w fun e w' => ∃ v3_ : Value, e = .returned (.agg #[.int .i64 r1, .int .i64 r2, .int .u8 r3, v3_]) ∧ Kd.R k33 33 w' w.heap.size (fun _ => True) v3_ r4 ∧ Below w.heap.size w w' := by
 have hu26 := Try.underlying26
 have HR0_3 := Aside0.mk hr0_3
 have HC0_3 := Aside0.mk hc0_3
 clear hr0_3 hc0_3
 have HB := Aside0.mk (Below.refl w.heap.size w)
 have H : (if ([] : List (S33)).length + l0_3.length < 5864062014805 then (some (a0_0, a0_1, a0_2, (([] : List (S33)) ++ l0_3))) else (none)) = some (r1, r2, r3, r4) := h
 clear h
 by_cases c2 : ([] : List (S33)).length + l0_3.length < 5864062014805
 ·rw [if_pos c2] at H
  have LMc2 := Aside0.mk c2
  clear c2
  obtain ⟨y317, hy317⟩ : ∃ y_ : List (S33), y_ = (([] : List (S33)) ++ l0_3) := ⟨_, rfl⟩
  replace H : (some (a0_0, a0_1, a0_2, y317)) = some (r1, r2, r3, r4) := by first | (rw [hy317]; with_reducible exact H) | (have H2_ := (Option.bind_some _ _).symm.trans H; rw [hy317]; with_reducible exact H2_) | (have H2_ := (Option.bind_some _ _).symm.trans H; with_reducible exact H2_) | with_reducible exact H | (rw [hy317]; exact H) | exact H
  have Ny317 := Aside0.mk hy317
  clear hy317
  simp only [Option.some.injEq, Prod.mk.injEq] at H
  obtain ⟨rfl, rfl, rfl, rfl⟩ := H
  go_enter Try.func39, Try.ntmps39
  go_wp2_with (first | ((with_reducible refine gate_dst (N := 1) rfl ?_); refine box_e 1 #[.int .i64 a0_0, .int .i64 a0_1, .int .u8 a0_2, .slice A0_3 l0_3.length c0_3] 26 ?_; intro gb315 hg w3 hbox hb; have BK315 := Aside0.mk hbox; have GW315 := bg_ HB hg; have GE315 := bg_ HB hg; replace HB := bs_ HB hb; clear hb hbox hg) | ((with_reducible refine gate_dst (N := 2) rfl ?_); refine box_e 2 #[.int .i64 0, .int .i64 0, .int .u8 0, .slice none 0 0] 26 ?_; intro gb316 hg w4 hbox hb; have BK316 := Aside0.mk hbox; have GW316 := bg_ HB hg; have GE316 := bg_ HB hg; have NB315_316 := bn_ BK315 hg; have NB316_315 := bm_ BK315 hg; replace BK315 := bb_ BK315 hb; replace HB := bs_ HB hb; clear hb hbox hg; have hnb5 := NB315_316.out; have hnc5 := NB316_315.out; obtain ⟨hcz6_0, hcz6_1, hcz6_2, hcz6_3, hfz6_0, hfz6_1, hfz6_2, hfz6_3⟩ := c4_ BK315) | ((with_reducible refine gate_builtin (b := .append) (xs := #[.const (.slice none 0 0), .tmp 4]) rfl ?_); at_builtin; refine Kd.R_append_rows k33 (w0 := w) w.heap.size rfl (.const (.slice none 0 0)) (.tmp 4) 24 33 (.agg #[(.int .i64 0), (.int .i64 0), (.int .u8 0)]) 24 rfl Try.underlying24 info33 rfl (by decide) (by omega) (.slice none 0 0) ([] : List (S33)) l0_3 _ _ _ (fun _ => True) (fun _ => False) rfl rfl ?aO ?aR (fun _ _ h => h) (fun _ h => h.elim) ?aF ?aB ?aS ?aL ?_; (case aR => repeat (first | exact (Kd.C_below HR0_3.out HB.out) | (with_reducible refine Kd.C_alloc ?_ _) | (with_reducible refine Kd.C_drewN ?_ _) | (with_reducible refine Kd.C_drew ?_))); (case aB => exact (bh_ HB)); (case aF => exact (fun _ _ => trivial)); (case aO => exact ((Kd.R_nil _ _ _ _ (fun _ => True)))); (case aS => exact (below_size (bh_ HB))); (case aL => have := LMc2.out; omega); intro v318 w7 ho hb hg hat; rw [← Ny317.out] at ho; have HO319 := Aside0.mk (ho); replace BK315 := Aside0.mk (blk_grown (g := gb315) (o := .cells #[.int .i64 a0_0, .int .i64 a0_1, .int .u8 a0_2, .slice A0_3 l0_3.length c0_3] 26 (0, 0)) (bq_ BK315) hg (by simp [Value.ownBlock])); replace BK316 := Aside0.mk (blk_grown (g := gb316) (o := .cells #[.int .i64 0, .int .i64 0, .int .u8 0, .slice none 0 0] 26 (0, 0)) (bq_ BK316) hg (by simp [Value.ownBlock])); replace HB := Aside0.mk (hb); clear ho hb hg hat; obtain ⟨Ao8, co8, eo8⟩ := Kd.R_slice HO319.out; subst eo8; obtain ⟨hcz9_0, hcz9_1, hcz9_2, hcz9_3, hfz9_0, hfz9_1, hfz9_2, hfz9_3⟩ := c4_ BK315; obtain ⟨hcz10_0, hcz10_1, hcz10_2, hcz10_3, hfz10_0, hfz10_1, hfz10_2, hfz10_3⟩ := c4_ BK316))
  refine bodyPost_ret (results_cell_row rfl _ _ gb316 26 #[.int .i64 a0_0, .int .i64 a0_1, .int .u8 a0_2, .slice Ao8 y317.length co8] (0, 0) _ rfl (bp_ BK316) Try.underlying26 rfl (by kernel_rfl)) rfl ?_
  exact ⟨_, by first | rfl | (simp [errW_none, errW_some] <;> rfl) | (simp [*, errW_none, errW_some] <;> rfl), by (with_reducible repeat (first | apply Kd.R_alloc | apply Kd.R_drewN | apply Kd.R_drew)); exact Kd.R_mono (Kd.R_far (p := ⟨gb316, 3, none⟩) (Kd.R_far (p := ⟨gb316, 2, none⟩) (Kd.R_far (p := ⟨gb316, 1, none⟩) (Kd.R_far (p := ⟨gb316, 0, none⟩) (Kd.R_far (p := ⟨gb315, 3, none⟩) (Kd.R_types (Kd.R_types HO319.out BK315.out (by decide)) BK316.out (by decide)) (fun _ hk => hk.1.2) (.slice Ao8 y317.length co8)) (fun _ hk => hk.2) (.int .i64 a0_0)) (fun _ hk => hk.2) (.int .i64 a0_1)) (fun _ hk => hk.2) (.int .u8 a0_2)) (fun _ hk => hk.2) (.slice Ao8 y317.length co8)) (fun _ hk => trivial), bh_ HB⟩
 ·rw [if_neg c2] at H
  exact absurd H (by simp)

/-! ### salvorref16_status: function 61 -/
def salvorref16_status.f (a0 : Int) : Option (Bool) := if a0 = 63 then (some true) else (if a0 = 42 then (some true) else (if a0 = 47 then (some true) else (if a0 = 45 then (some true) else (some (a0 == 43)))))
set_option maxHeartbeats 8000000 in
set_option maxRecDepth 100000 in
theorem salvorref16_status.calls (a0 : Int) (r : Bool) (w : World) (h : salvorref16_status.f a0 = some r) :
    Calls Try.prog 61 #[.int .u8 a0] w fun e w' => e = .returned (.bool r) ∧ Drawn0 w w' := by
  have H : (if a0 = 63 then (some true) else (if a0 = 42 then (some true) else (if a0 = 47 then (some true) else (if a0 = 45 then (some true) else (some (a0 == 43)))))) = some r := h
  clear h
  by_cases c2 : a0 = 63
  · rw [if_pos c2] at H
    have c2b0 : (a0 == 63) = true := beq_iff_eq.mpr c2
    have c2b1 : (a0 != 63) = false := bne_eq_false_iff_eq.mpr c2
    clear c2
    obtain rfl := Option.some.inj H
    go_enter Try.func61, Try.ntmps61
    go_wp2
    go_ret
    exact ⟨by first | rfl | (simp; done) | (simp [*]; done), by repeat (first | exact Drawn0.refl _ | apply Drawn0.step)⟩
  · rw [if_neg c2] at H
    have c2b0 : (a0 == 63) = false := beq_eq_false_iff_ne.mpr c2
    have c2b1 : (a0 != 63) = true := bne_iff_ne.mpr c2
    by_cases c3 : a0 = 42
    · rw [if_pos c3] at H
      have c3b0 : (a0 == 42) = true := beq_iff_eq.mpr c3
      have c3b1 : (a0 != 42) = false := bne_eq_false_iff_eq.mpr c3
      clear c3
      obtain rfl := Option.some.inj H
      go_enter Try.func61, Try.ntmps61
      go_wp2
      go_ret
      exact ⟨by first | rfl | (simp; done) | (simp [*]; done), by repeat (first | exact Drawn0.refl _ | apply Drawn0.step)⟩
    · rw [if_neg c3] at H
      have c3b0 : (a0 == 42) = false := beq_eq_false_iff_ne.mpr c3
      have c3b1 : (a0 != 42) = true := bne_iff_ne.mpr c3
      by_cases c4 : a0 = 47
      · rw [if_pos c4] at H
        have c4b0 : (a0 == 47) = true := beq_iff_eq.mpr c4
        have c4b1 : (a0 != 47) = false := bne_eq_false_iff_eq.mpr c4
        clear c4
        obtain rfl := Option.some.inj H
        go_enter Try.func61, Try.ntmps61
        go_wp2
        go_ret
        exact ⟨by first | rfl | (simp; done) | (simp [*]; done), by repeat (first | exact Drawn0.refl _ | apply Drawn0.step)⟩
      · rw [if_neg c4] at H
        have c4b0 : (a0 == 47) = false := beq_eq_false_iff_ne.mpr c4
        have c4b1 : (a0 != 47) = true := bne_iff_ne.mpr c4
        by_cases c5 : a0 = 45
        · rw [if_pos c5] at H
          have c5b0 : (a0 == 45) = true := beq_iff_eq.mpr c5
          have c5b1 : (a0 != 45) = false := bne_eq_false_iff_eq.mpr c5
          clear c5
          obtain rfl := Option.some.inj H
          go_enter Try.func61, Try.ntmps61
          go_wp2
          go_ret
          exact ⟨by first | rfl | (simp; done) | (simp [*]; done), by repeat (first | exact Drawn0.refl _ | apply Drawn0.step)⟩
        · rw [if_neg c5] at H
          have c5b0 : (a0 == 45) = false := beq_eq_false_iff_ne.mpr c5
          have c5b1 : (a0 != 45) = true := bne_iff_ne.mpr c5
          obtain rfl := Option.some.inj H
          go_enter Try.func61, Try.ntmps61
          go_wp2
          go_ret
          exact ⟨by first | rfl | (simp; done) | (simp [*]; done), by repeat (first | exact Drawn0.refl _ | apply Drawn0.step)⟩

end Go.Proofs.Ytnoilinjlelpaaa.P
