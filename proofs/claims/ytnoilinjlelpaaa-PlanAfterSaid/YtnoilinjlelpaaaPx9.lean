/- Laid by a program of this session's own (wip/wprint.py, over the kit's print.py): functions of the given program as plain Lean functions, and that the program's calls come to their answers. -/
import Derived.Test.YtnoilinjlelpaaaPx0
import Derived.Test.YtnoilinjlelpaaaPx7
import Derived.Test.YtnoilinjlelpaaaPx8
namespace Go.Proofs.Ytnoilinjlelpaaa.P
open Go.RowKit Go.Proofs.YtnoilinjlelpaaaW.PrintWords Go.Proofs.YtnoilinjlelpaaaW.PrintLast Go.Proofs.YtnoilinjlelpaaaW.PrintMore
attribute [local go_sem] max2_int min2_int max_two min_two max_three min_three max_four min_four   -- for this text's walks alone
set_option linter.unusedVariables false
set_option linter.unusedSimpArgs false

/-! ### plan_seek: function 56 -/
def plan_seek.f (k : Nat) (a0_0 : Int) (a0_1 : Int) (a0_2 : Bool) (a1_0 : Int) (a1_1 : Int) (a1_2 : Int) (l1_3 : List (S33)) (a2 : Int) (a3 : Int) : Option (Int × Int × Int × Bool) := if a0_2 = true then ((region_Last.f k l1_3 a2 a3).bind fun bt131 => (some (bt131.1, bt131.2.1, bt131.2.2.1, bt131.2.2.2))) else ((region_First.f k l1_3 a2 a3).bind fun bt135 => (some (bt135.1, bt135.2.1, bt135.2.2.1, bt135.2.2.2)))
theorem plan_seek.mono : ∀ a0 a1 a2 a3 a4 a5 a6 a7 a8 k, LeO (plan_seek.f k a0 a1 a2 a3 a4 a5 a6 a7 a8) (plan_seek.f (k + 1) a0 a1 a2 a3 a4 a5 a6 a7 a8) := by
 intro a0 a1 a2 a3 a4 a5 a6 a7 a8 k
 unfold plan_seek.f
 repeat' first
   | (with_reducible exact region_First.mono _ _ _ _)
   | (with_reducible exact region_Last.mono _ _ _ _)
   | (with_reducible exact LeO.refl _)
   | (with_reducible exact LeO.none _)
   | (with_reducible refine LeO.ite ?_ ?_)
   | (with_reducible refine LeO.bind ?_ (fun _ => ?_))
   | exact region_First.mono _ _ _ _
   | exact region_Last.mono _ _ _ _
   | exact LeO.none _
   | refine LeO.ite ?_ ?_
   | refine LeO.bind ?_ (fun _ => ?_)
set_option maxHeartbeats 8000000 in
set_option maxRecDepth 100000 in
theorem plan_seek.calls (k : Nat) (a0_0 : Int) (a0_1 : Int) (a0_2 : Bool) (a1_0 : Int) (a1_1 : Int) (a1_2 : Int) (A1_3 : Option Addr) (c1_3 : Nat) (l1_3 : List (S33)) (a2 : Int) (a3 : Int) (r1 : Int) (r2 : Int) (r3 : Int) (r4 : Bool) (w : World) (hr1_3 : Kd.C k33 w A1_3 l1_3.length l1_3) (hc1_3 : l1_3.length ≤ c1_3) (h : plan_seek.f k a0_0 a0_1 a0_2 a1_0 a1_1 a1_2 l1_3 a2 a3 = some (r1, r2, r3, r4)) :
  Calls Try.prog 56 #[.agg #[.int .i64 a0_0, .int .i64 a0_1, .bool a0_2], .agg #[.int .i64 a1_0, .int .i64 a1_1, .int .u8 a1_2, .slice A1_3 l1_3.length c1_3], .int .u8 a2, .int .i64 a3] w fun e w' => e = .returned (.tuple #[.agg #[.int .i64 r1, .int .i64 r2, .int .u8 r3], .bool r4]) ∧ Below w.heap.size w w' := by
 have hu23 := Try.underlying23
 have hu26 := Try.underlying26
 have hu33 := Try.underlying33
 have HR1_3 := Aside0.mk hr1_3
 have HC1_3 := Aside0.mk hc1_3
 clear hr1_3 hc1_3
 have HB := Aside0.mk (Below.refl w.heap.size w)
 have H : (if a0_2 = true then ((region_Last.f k l1_3 a2 a3).bind fun bt131 => (some (bt131.1, bt131.2.1, bt131.2.2.1, bt131.2.2.2))) else ((region_First.f k l1_3 a2 a3).bind fun bt135 => (some (bt135.1, bt135.2.1, bt135.2.2.1, bt135.2.2.2)))) = some (r1, r2, r3, r4) := h
 clear h
 by_cases c5 : a0_2 = true
 ·subst c5
  have H1 : ((region_Last.f k l1_3 a2 a3).bind fun bt131 => (some (bt131.1, bt131.2.1, bt131.2.2.1, bt131.2.2.2))) = some (r1, r2, r3, r4) := by rw [if_pos rfl] at H; exact H
  clear H
  have H := H1
  clear H1
  replace H := Option.bind_eq_some_iff.mp H
  obtain ⟨⟨t131, t132, t133, t134⟩, A60, H⟩ := H
  replace H : (some (t131, t132, t133, t134)) = some (r1, r2, r3, r4) := H
  have A6 := Aside0.mk A60
  clear A60
  simp only [Option.some.injEq, Prod.mk.injEq] at H
  obtain ⟨rfl, rfl, rfl, rfl⟩ := H
  go_enter Try.func56, Try.ntmps56
  go_wp2_with (first | ((with_reducible refine gate_dst (N := 4) rfl ?_); refine box_e 4 #[.int .i64 a0_0, .int .i64 a0_1, .bool true] 23 ?_; intro gb128 hg w7 hbox hb; have BK128 := Aside0.mk hbox; have GW128 := bg_ HB hg; have GE128 := bg_ HB hg; replace HB := bs_ HB hb; clear hb hbox hg) | ((with_reducible refine gate_dst (N := 5) rfl ?_); refine box_e 5 #[.int .i64 a1_0, .int .i64 a1_1, .int .u8 a1_2, .slice A1_3 l1_3.length c1_3] 26 ?_; intro gb129 hg w8 hbox hb; have BK129 := Aside0.mk hbox; have GW129 := bg_ HB hg; have GE129 := bg_ HB hg; have NB128_129 := bn_ BK128 hg; have NB129_128 := bm_ BK128 hg; replace BK128 := bb_ BK128 hb; replace HB := bs_ HB hb; clear hb hbox hg) | ((with_reducible refine gate_dst (N := 8) rfl ?_); refine box_e 8 #[.int .i64 0, .int .i64 0, .int .u8 0] 33 ?_; intro gb130 hg w9 hbox hb; have BK130 := Aside0.mk hbox; have GW130 := bg_ HB hg; have GE130 := bg_ HB hg; have NB128_130 := bn_ BK128 hg; have NB130_128 := bm_ BK128 hg; have NB129_130 := bn_ BK129 hg; have NB130_129 := bm_ BK129 hg; replace BK128 := bb_ BK128 hb; replace BK129 := bb_ BK129 hb; replace HB := bs_ HB hb; clear hb hbox hg; have hnb10 := NB128_129.out; have hnc10 := NB129_128.out; have hnb11 := NB128_130.out; have hnc11 := NB130_128.out; obtain ⟨hcz12_0, hcz12_1, hcz12_2, hfz12_0, hfz12_1, hfz12_2⟩ := c3_ BK128; have hnb13 := NB129_130.out; have hnc13 := NB130_129.out; obtain ⟨hcz14_0, hcz14_1, hcz14_2, hcz14_3, hfz14_0, hfz14_1, hfz14_2, hfz14_3⟩ := c4_ BK129) | ((with_reducible refine gate_callee (f := 24) rfl ?_); refine gl_ (some 16) rfl rfl Try.func24 (by kernel_rfl) rfl #[.slice A1_3 l1_3.length c1_3, .int .u8 a2, .int .i64 a3] rfl ?_; (with_reducible refine (region_Last.calls k _ _ l1_3 a2 a3 t131 t132 t133 t134 _ ?side1 ?side2 A6.out).mono ?_); (case side1 => exact cb_ HR1_3 HB); (case side2 => exact HC1_3.out); rintro e w15 ⟨rfl, hb⟩; refine ⟨_, rfl, ?_⟩; replace BK128 := bb_ BK128 hb; replace BK129 := bb_ BK129 hb; replace BK130 := bb_ BK130 hb; replace HB := bs_ HB hb; (try clear hb); obtain ⟨hcz16_0, hcz16_1, hcz16_2, hfz16_0, hfz16_1, hfz16_2⟩ := c3_ BK130))
  refine bodyPost_ret (results_ct rfl _ _ gb130 33 #[.int .i64 t131, .int .i64 t132, .int .u8 t133] (0, 0) _ rfl (bp_ BK130) Try.underlying33 rfl (by kernel_rfl)) rfl ?_
  exact ⟨by first | rfl | (simp [errW_none, errW_some] <;> rfl) | (simp [*, errW_none, errW_some] <;> rfl), bh_ HB⟩
 ·replace c5 := Bool.eq_false_iff.mpr c5
  subst c5
  have H1 : ((region_First.f k l1_3 a2 a3).bind fun bt135 => (some (bt135.1, bt135.2.1, bt135.2.2.1, bt135.2.2.2))) = some (r1, r2, r3, r4) := by rw [if_neg (show ¬ (false = true) by decide)] at H; exact H
  clear H
  have H := H1
  clear H1
  replace H := Option.bind_eq_some_iff.mp H
  obtain ⟨⟨t135, t136, t137, t138⟩, A170, H⟩ := H
  replace H : (some (t135, t136, t137, t138)) = some (r1, r2, r3, r4) := H
  have A17 := Aside0.mk A170
  clear A170
  simp only [Option.some.injEq, Prod.mk.injEq] at H
  obtain ⟨rfl, rfl, rfl, rfl⟩ := H
  go_enter Try.func56, Try.ntmps56
  go_wp2_with (first | ((with_reducible refine gate_dst (N := 4) rfl ?_); refine box_e 4 #[.int .i64 a0_0, .int .i64 a0_1, .bool false] 23 ?_; intro gb128 hg w18 hbox hb; have BK128 := Aside0.mk hbox; have GW128 := bg_ HB hg; have GE128 := bg_ HB hg; replace HB := bs_ HB hb; clear hb hbox hg) | ((with_reducible refine gate_dst (N := 5) rfl ?_); refine box_e 5 #[.int .i64 a1_0, .int .i64 a1_1, .int .u8 a1_2, .slice A1_3 l1_3.length c1_3] 26 ?_; intro gb129 hg w19 hbox hb; have BK129 := Aside0.mk hbox; have GW129 := bg_ HB hg; have GE129 := bg_ HB hg; have NB128_129 := bn_ BK128 hg; have NB129_128 := bm_ BK128 hg; replace BK128 := bb_ BK128 hb; replace HB := bs_ HB hb; clear hb hbox hg) | ((with_reducible refine gate_dst (N := 8) rfl ?_); refine box_e 8 #[.int .i64 0, .int .i64 0, .int .u8 0] 33 ?_; intro gb130 hg w20 hbox hb; have BK130 := Aside0.mk hbox; have GW130 := bg_ HB hg; have GE130 := bg_ HB hg; have NB128_130 := bn_ BK128 hg; have NB130_128 := bm_ BK128 hg; have NB129_130 := bn_ BK129 hg; have NB130_129 := bm_ BK129 hg; replace BK128 := bb_ BK128 hb; replace BK129 := bb_ BK129 hb; replace HB := bs_ HB hb; clear hb hbox hg; have hnb21 := NB128_129.out; have hnc21 := NB129_128.out; have hnb22 := NB128_130.out; have hnc22 := NB130_128.out; obtain ⟨hcz23_0, hcz23_1, hcz23_2, hfz23_0, hfz23_1, hfz23_2⟩ := c3_ BK128; have hnb24 := NB129_130.out; have hnc24 := NB130_129.out; obtain ⟨hcz25_0, hcz25_1, hcz25_2, hcz25_3, hfz25_0, hfz25_1, hfz25_2, hfz25_3⟩ := c4_ BK129) | ((with_reducible refine gate_callee (f := 23) rfl ?_); refine gl_ (some 23) rfl rfl Try.func23 (by kernel_rfl) rfl #[.slice A1_3 l1_3.length c1_3, .int .u8 a2, .int .i64 a3] rfl ?_; (with_reducible refine (region_First.calls k _ _ l1_3 a2 a3 t135 t136 t137 t138 _ ?side1 ?side2 A17.out).mono ?_); (case side1 => exact cb_ HR1_3 HB); (case side2 => exact HC1_3.out); rintro e w26 ⟨rfl, hb⟩; refine ⟨_, rfl, ?_⟩; replace BK128 := bb_ BK128 hb; replace BK129 := bb_ BK129 hb; replace BK130 := bb_ BK130 hb; replace HB := bs_ HB hb; (try clear hb); obtain ⟨hcz27_0, hcz27_1, hcz27_2, hfz27_0, hfz27_1, hfz27_2⟩ := c3_ BK130))
  refine bodyPost_ret (results_ct rfl _ _ gb130 33 #[.int .i64 t135, .int .i64 t136, .int .u8 t137] (0, 0) _ rfl (bp_ BK130) Try.underlying33 rfl (by kernel_rfl)) rfl ?_
  exact ⟨by first | rfl | (simp [errW_none, errW_some] <;> rfl) | (simp [*, errW_none, errW_some] <;> rfl), bh_ HB⟩

/-! ### plan_cut: function 57 -/
def plan_cut.f (a0_0 : Int) (a0_1 : Int) (a0_2 : Bool) (a1_0 : Int) (a1_1 : Int) (a1_2 : Int) (a2 : Int) : Option (Int × Int) := if a0_2 = true then (some (mx a1_0 (wrap64 ((wrap64 ((wrap64 (Int.tdiv (wrap64 ((wrap64 (a1_0 + a1_1)) - 1)) 8)) * 8)) - (wrap64 (a2 * 8)))), wrap64 ((wrap64 (a1_0 + a1_1)) - (mx a1_0 (wrap64 ((wrap64 ((wrap64 (Int.tdiv (wrap64 ((wrap64 (a1_0 + a1_1)) - 1)) 8)) * 8)) - (wrap64 (a2 * 8)))))))) else (some (a1_0, mn a1_1 (wrap64 ((wrap64 ((wrap64 ((wrap64 ((wrap64 (Int.tdiv a1_0 8)) + 1)) + a2)) * 8)) - a1_0))))
set_option maxHeartbeats 8000000 in
set_option maxRecDepth 100000 in
theorem plan_cut.calls (a0_0 : Int) (a0_1 : Int) (a0_2 : Bool) (a1_0 : Int) (a1_1 : Int) (a1_2 : Int) (a2 : Int) (r1 : Int) (r2 : Int) (w : World) (h : plan_cut.f a0_0 a0_1 a0_2 a1_0 a1_1 a1_2 a2 = some (r1, r2)) :
  Calls Try.prog 57 #[.agg #[.int .i64 a0_0, .int .i64 a0_1, .bool a0_2], .agg #[.int .i64 a1_0, .int .i64 a1_1, .int .u8 a1_2], .int .i64 a2] w fun e w' => e = .returned (.tuple #[.int .i64 r1, .int .i64 r2]) ∧ Below w.heap.size w w' := by
 have hu23 := Try.underlying23
 have hu33 := Try.underlying33
 have HB := Aside0.mk (Below.refl w.heap.size w)
 have H : (if a0_2 = true then (some (mx a1_0 (wrap64 ((wrap64 ((wrap64 (Int.tdiv (wrap64 ((wrap64 (a1_0 + a1_1)) - 1)) 8)) * 8)) - (wrap64 (a2 * 8)))), wrap64 ((wrap64 (a1_0 + a1_1)) - (mx a1_0 (wrap64 ((wrap64 ((wrap64 (Int.tdiv (wrap64 ((wrap64 (a1_0 + a1_1)) - 1)) 8)) * 8)) - (wrap64 (a2 * 8)))))))) else (some (a1_0, mn a1_1 (wrap64 ((wrap64 ((wrap64 ((wrap64 ((wrap64 (Int.tdiv a1_0 8)) + 1)) + a2)) * 8)) - a1_0))))) = some (r1, r2) := h
 clear h
 by_cases c4 : a0_2 = true
 ·subst c4
  have H1 : (some (mx a1_0 (wrap64 ((wrap64 ((wrap64 (Int.tdiv (wrap64 ((wrap64 (a1_0 + a1_1)) - 1)) 8)) * 8)) - (wrap64 (a2 * 8)))), wrap64 ((wrap64 (a1_0 + a1_1)) - (mx a1_0 (wrap64 ((wrap64 ((wrap64 (Int.tdiv (wrap64 ((wrap64 (a1_0 + a1_1)) - 1)) 8)) * 8)) - (wrap64 (a2 * 8)))))))) = some (r1, r2) := by rw [if_pos rfl] at H; exact H
  clear H
  have H := H1
  clear H1
  obtain ⟨ji5, hji5⟩ : ∃ j_ : Int, (mx a1_0 (wrap64 ((wrap64 ((wrap64 (Int.tdiv (wrap64 ((wrap64 (a1_0 + a1_1)) - 1)) 8)) * 8)) - (wrap64 (a2 * 8))))) = j_ := ⟨_, rfl⟩
  replace H : (some (ji5, wrap64 ((wrap64 (a1_0 + a1_1)) - (ji5)))) = some (r1, r2) := by first | (rw [hji5] at H; exact H) | (simp only [hji5] at H ⊢; exact H)
  have hji5_ : (if a1_0 < (wrap64 ((wrap64 ((wrap64 (Int.tdiv (wrap64 ((wrap64 (a1_0 + a1_1)) - 1)) 8)) * 8)) - (wrap64 (a2 * 8)))) then (wrap64 ((wrap64 ((wrap64 (Int.tdiv (wrap64 ((wrap64 (a1_0 + a1_1)) - 1)) 8)) * 8)) - (wrap64 (a2 * 8)))) else a1_0) = ji5 := hji5
  have hji5k_ : (if a1_0 < (IntKind.i64.wrap ((IntKind.i64.wrap ((IntKind.i64.wrap (Int.tdiv (IntKind.i64.wrap ((IntKind.i64.wrap (a1_0 + a1_1)) - 1)) 8)) * 8)) - (IntKind.i64.wrap (a2 * 8)))) then (IntKind.i64.wrap ((IntKind.i64.wrap ((IntKind.i64.wrap (Int.tdiv (IntKind.i64.wrap ((IntKind.i64.wrap (a1_0 + a1_1)) - 1)) 8)) * 8)) - (IntKind.i64.wrap (a2 * 8)))) else a1_0) = ji5 := by simp only [i64_w]; exact hji5_
  simp only [Option.some.injEq, Prod.mk.injEq] at H
  obtain ⟨rfl, rfl⟩ := H
  go_enter Try.func57, Try.ntmps57
  go_wp2_with (first | ((with_reducible refine gate_dst (N := 3) rfl ?_); refine box_e 3 #[.int .i64 a0_0, .int .i64 a0_1, .bool true] 23 ?_; intro gb139 hg w6 hbox hb; have BK139 := Aside0.mk hbox; have GW139 := bg_ HB hg; have GE139 := bg_ HB hg; replace HB := bs_ HB hb; clear hb hbox hg) | ((with_reducible refine gate_dst (N := 4) rfl ?_); refine box_e 4 #[.int .i64 a1_0, .int .i64 a1_1, .int .u8 a1_2] 33 ?_; intro gb140 hg w7 hbox hb; have BK140 := Aside0.mk hbox; have GW140 := bg_ HB hg; have GE140 := bg_ HB hg; have NB139_140 := bn_ BK139 hg; have NB140_139 := bm_ BK139 hg; replace BK139 := bb_ BK139 hb; replace HB := bs_ HB hb; clear hb hbox hg; have hnb8 := NB139_140.out; have hnc8 := NB140_139.out; obtain ⟨hcz9_0, hcz9_1, hcz9_2, hfz9_0, hfz9_1, hfz9_2⟩ := c3_ BK139; obtain ⟨hcz10_0, hcz10_1, hcz10_2, hfz10_0, hfz10_1, hfz10_2⟩ := c3_ BK140))
  repeat (go_quiet (first | ((with_reducible refine gate_dst (N := 3) rfl ?_); refine box_e 3 #[.int .i64 a0_0, .int .i64 a0_1, .bool true] 23 ?_; intro gb139 hg w6 hbox hb; have BK139 := Aside0.mk hbox; have GW139 := bg_ HB hg; have GE139 := bg_ HB hg; replace HB := bs_ HB hb; clear hb hbox hg) | ((with_reducible refine gate_dst (N := 4) rfl ?_); refine box_e 4 #[.int .i64 a1_0, .int .i64 a1_1, .int .u8 a1_2] 33 ?_; intro gb140 hg w7 hbox hb; have BK140 := Aside0.mk hbox; have GW140 := bg_ HB hg; have GE140 := bg_ HB hg; have NB139_140 := bn_ BK139 hg; have NB140_139 := bm_ BK139 hg; replace BK139 := bb_ BK139 hb; replace HB := bs_ HB hb; clear hb hbox hg; have hnb8 := NB139_140.out; have hnc8 := NB140_139.out; obtain ⟨hcz9_0, hcz9_1, hcz9_2, hfz9_0, hfz9_1, hfz9_2⟩ := c3_ BK139; obtain ⟨hcz10_0, hcz10_1, hcz10_2, hfz10_0, hfz10_1, hfz10_2⟩ := c3_ BK140)); try go_wp2_with (first | ((with_reducible refine gate_dst (N := 3) rfl ?_); refine box_e 3 #[.int .i64 a0_0, .int .i64 a0_1, .bool true] 23 ?_; intro gb139 hg w6 hbox hb; have BK139 := Aside0.mk hbox; have GW139 := bg_ HB hg; have GE139 := bg_ HB hg; replace HB := bs_ HB hb; clear hb hbox hg) | ((with_reducible refine gate_dst (N := 4) rfl ?_); refine box_e 4 #[.int .i64 a1_0, .int .i64 a1_1, .int .u8 a1_2] 33 ?_; intro gb140 hg w7 hbox hb; have BK140 := Aside0.mk hbox; have GW140 := bg_ HB hg; have GE140 := bg_ HB hg; have NB139_140 := bn_ BK139 hg; have NB140_139 := bm_ BK139 hg; replace BK139 := bb_ BK139 hb; replace HB := bs_ HB hb; clear hb hbox hg; have hnb8 := NB139_140.out; have hnc8 := NB140_139.out; obtain ⟨hcz9_0, hcz9_1, hcz9_2, hfz9_0, hfz9_1, hfz9_2⟩ := c3_ BK139; obtain ⟨hcz10_0, hcz10_1, hcz10_2, hfz10_0, hfz10_1, hfz10_2⟩ := c3_ BK140)))
  go_ret2
  exact ⟨by first | rfl | (simp [errW_none, errW_some] <;> rfl) | (simp only [← hji5]; first | rfl | (simp [errW_none, errW_some] <;> rfl)) | (simp [*, errW_none, errW_some] <;> rfl), bh_ HB⟩
 ·replace c4 := Bool.eq_false_iff.mpr c4
  subst c4
  have H1 : (some (a1_0, mn a1_1 (wrap64 ((wrap64 ((wrap64 ((wrap64 ((wrap64 (Int.tdiv a1_0 8)) + 1)) + a2)) * 8)) - a1_0)))) = some (r1, r2) := by rw [if_neg (show ¬ (false = true) by decide)] at H; exact H
  clear H
  have H := H1
  clear H1
  obtain ⟨ji11, hji11⟩ : ∃ j_ : Int, (mn a1_1 (wrap64 ((wrap64 ((wrap64 ((wrap64 ((wrap64 (Int.tdiv a1_0 8)) + 1)) + a2)) * 8)) - a1_0))) = j_ := ⟨_, rfl⟩
  replace H : (some (a1_0, ji11)) = some (r1, r2) := by first | (rw [hji11] at H; exact H) | (simp only [hji11] at H ⊢; exact H)
  have hji11_ : (if (wrap64 ((wrap64 ((wrap64 ((wrap64 ((wrap64 (Int.tdiv a1_0 8)) + 1)) + a2)) * 8)) - a1_0)) < a1_1 then (wrap64 ((wrap64 ((wrap64 ((wrap64 ((wrap64 (Int.tdiv a1_0 8)) + 1)) + a2)) * 8)) - a1_0)) else a1_1) = ji11 := hji11
  have hji11k_ : (if (IntKind.i64.wrap ((IntKind.i64.wrap ((IntKind.i64.wrap ((IntKind.i64.wrap ((IntKind.i64.wrap (Int.tdiv a1_0 8)) + 1)) + a2)) * 8)) - a1_0)) < a1_1 then (IntKind.i64.wrap ((IntKind.i64.wrap ((IntKind.i64.wrap ((IntKind.i64.wrap ((IntKind.i64.wrap (Int.tdiv a1_0 8)) + 1)) + a2)) * 8)) - a1_0)) else a1_1) = ji11 := by simp only [i64_w]; exact hji11_
  simp only [Option.some.injEq, Prod.mk.injEq] at H
  obtain ⟨rfl, rfl⟩ := H
  go_enter Try.func57, Try.ntmps57
  go_wp2_with (first | ((with_reducible refine gate_dst (N := 3) rfl ?_); refine box_e 3 #[.int .i64 a0_0, .int .i64 a0_1, .bool false] 23 ?_; intro gb139 hg w12 hbox hb; have BK139 := Aside0.mk hbox; have GW139 := bg_ HB hg; have GE139 := bg_ HB hg; replace HB := bs_ HB hb; clear hb hbox hg) | ((with_reducible refine gate_dst (N := 4) rfl ?_); refine box_e 4 #[.int .i64 a1_0, .int .i64 a1_1, .int .u8 a1_2] 33 ?_; intro gb140 hg w13 hbox hb; have BK140 := Aside0.mk hbox; have GW140 := bg_ HB hg; have GE140 := bg_ HB hg; have NB139_140 := bn_ BK139 hg; have NB140_139 := bm_ BK139 hg; replace BK139 := bb_ BK139 hb; replace HB := bs_ HB hb; clear hb hbox hg; have hnb14 := NB139_140.out; have hnc14 := NB140_139.out; obtain ⟨hcz15_0, hcz15_1, hcz15_2, hfz15_0, hfz15_1, hfz15_2⟩ := c3_ BK139; obtain ⟨hcz16_0, hcz16_1, hcz16_2, hfz16_0, hfz16_1, hfz16_2⟩ := c3_ BK140))
  repeat (go_quiet (first | ((with_reducible refine gate_dst (N := 3) rfl ?_); refine box_e 3 #[.int .i64 a0_0, .int .i64 a0_1, .bool false] 23 ?_; intro gb139 hg w12 hbox hb; have BK139 := Aside0.mk hbox; have GW139 := bg_ HB hg; have GE139 := bg_ HB hg; replace HB := bs_ HB hb; clear hb hbox hg) | ((with_reducible refine gate_dst (N := 4) rfl ?_); refine box_e 4 #[.int .i64 a1_0, .int .i64 a1_1, .int .u8 a1_2] 33 ?_; intro gb140 hg w13 hbox hb; have BK140 := Aside0.mk hbox; have GW140 := bg_ HB hg; have GE140 := bg_ HB hg; have NB139_140 := bn_ BK139 hg; have NB140_139 := bm_ BK139 hg; replace BK139 := bb_ BK139 hb; replace HB := bs_ HB hb; clear hb hbox hg; have hnb14 := NB139_140.out; have hnc14 := NB140_139.out; obtain ⟨hcz15_0, hcz15_1, hcz15_2, hfz15_0, hfz15_1, hfz15_2⟩ := c3_ BK139; obtain ⟨hcz16_0, hcz16_1, hcz16_2, hfz16_0, hfz16_1, hfz16_2⟩ := c3_ BK140)); try go_wp2_with (first | ((with_reducible refine gate_dst (N := 3) rfl ?_); refine box_e 3 #[.int .i64 a0_0, .int .i64 a0_1, .bool false] 23 ?_; intro gb139 hg w12 hbox hb; have BK139 := Aside0.mk hbox; have GW139 := bg_ HB hg; have GE139 := bg_ HB hg; replace HB := bs_ HB hb; clear hb hbox hg) | ((with_reducible refine gate_dst (N := 4) rfl ?_); refine box_e 4 #[.int .i64 a1_0, .int .i64 a1_1, .int .u8 a1_2] 33 ?_; intro gb140 hg w13 hbox hb; have BK140 := Aside0.mk hbox; have GW140 := bg_ HB hg; have GE140 := bg_ HB hg; have NB139_140 := bn_ BK139 hg; have NB140_139 := bm_ BK139 hg; replace BK139 := bb_ BK139 hb; replace HB := bs_ HB hb; clear hb hbox hg; have hnb14 := NB139_140.out; have hnc14 := NB140_139.out; obtain ⟨hcz15_0, hcz15_1, hcz15_2, hfz15_0, hfz15_1, hfz15_2⟩ := c3_ BK139; obtain ⟨hcz16_0, hcz16_1, hcz16_2, hfz16_0, hfz16_1, hfz16_2⟩ := c3_ BK140)))
  go_ret2
  exact ⟨by first | rfl | (simp [errW_none, errW_some] <;> rfl) | (simp only [← hji11]; first | rfl | (simp [errW_none, errW_some] <;> rfl)) | (simp [*, errW_none, errW_some] <;> rfl), bh_ HB⟩

end Go.Proofs.Ytnoilinjlelpaaa.P
