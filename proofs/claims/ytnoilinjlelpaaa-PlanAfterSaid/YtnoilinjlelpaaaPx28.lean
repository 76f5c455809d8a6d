/- Laid by a program of this session's own (wip/wprint.py, over the kit's print.py): functions of the given program as plain Lean functions, and that the program's calls come to their answers. -/
import Derived.Test.YtnoilinjlelpaaaPx0
import Derived.Test.YtnoilinjlelpaaaPx26
import Derived.Test.YtnoilinjlelpaaaPx27
namespace Go.Proofs.Ytnoilinjlelpaaa.P
open Go.RowKit Go.Proofs.YtnoilinjlelpaaaW.PrintWords Go.Proofs.YtnoilinjlelpaaaW.PrintLast Go.Proofs.YtnoilinjlelpaaaW.PrintMore
attribute [local go_sem] max2_int min2_int max_two min_two max_three min_three max_four min_four   -- for this text's walks alone
set_option linter.unusedVariables false
set_option linter.unusedSimpArgs false

/-! ### salvorref16_side: function 62 -/
def salvorref16_side.f (k : Nat) (a0_0 : Int) (a0_1 : Int) (a0_2 : Bool) (l1 : List (S33)) (a2 : Int) (a3 : Int) : Option (Int × Int × Int × Bool) := if a0_2 = true then ((salvorref16_Last.f k l1 a2 a3).bind fun bt351 => (some (bt351.1, bt351.2.1, bt351.2.2.1, bt351.2.2.2))) else ((salvorref16_First.f k l1 a2 a3).bind fun bt355 => (some (bt355.1, bt355.2.1, bt355.2.2.1, bt355.2.2.2)))
theorem salvorref16_side.mono : ∀ a0 a1 a2 a3 a4 a5 k, LeO (salvorref16_side.f k a0 a1 a2 a3 a4 a5) (salvorref16_side.f (k + 1) a0 a1 a2 a3 a4 a5) := by
 intro a0 a1 a2 a3 a4 a5 k
 unfold salvorref16_side.f
 repeat' first
   | (with_reducible exact salvorref16_First.mono _ _ _ _)
   | (with_reducible exact salvorref16_Last.mono _ _ _ _)
   | (with_reducible exact LeO.refl _)
   | (with_reducible exact LeO.none _)
   | (with_reducible refine LeO.ite ?_ ?_)
   | (with_reducible refine LeO.bind ?_ (fun _ => ?_))
   | exact salvorref16_First.mono _ _ _ _
   | exact salvorref16_Last.mono _ _ _ _
   | exact LeO.none _
   | refine LeO.ite ?_ ?_
   | refine LeO.bind ?_ (fun _ => ?_)
set_option maxHeartbeats 8000000 in
set_option maxRecDepth 100000 in
theorem salvorref16_side.calls (k : Nat) (a0_0 : Int) (a0_1 : Int) (a0_2 : Bool) (A1 : Option Addr) (c1 : Nat) (l1 : List (S33)) (a2 : Int) (a3 : Int) (r1 : Int) (r2 : Int) (r3 : Int) (r4 : Bool) (w : World) (hr1 : Kd.C k33 w A1 l1.length l1) (hc1 : l1.length ≤ c1) (h : salvorref16_side.f k a0_0 a0_1 a0_2 l1 a2 a3 = some (r1, r2, r3, r4)) :
  Calls Try.prog 62 #[.agg #[.int .i64 a0_0, .int .i64 a0_1, .bool a0_2], .slice A1 l1.length c1, .int .u8 a2, .int .i64 a3] w fun e w' => e = .returned (.tuple #[.agg #[.int .i64 r1, .int .i64 r2, .int .u8 r3], .bool r4]) ∧ Below w.heap.size w w' := by
 have hu23 := Try.underlying23
 have hu33 := Try.underlying33
 have HR1 := Aside0.mk hr1
 have HC1 := Aside0.mk hc1
 clear hr1 hc1
 have HB := Aside0.mk (Below.refl w.heap.size w)
 have H : (if a0_2 = true then ((salvorref16_Last.f k l1 a2 a3).bind fun bt351 => (some (bt351.1, bt351.2.1, bt351.2.2.1, bt351.2.2.2))) else ((salvorref16_First.f k l1 a2 a3).bind fun bt355 => (some (bt355.1, bt355.2.1, bt355.2.2.1, bt355.2.2.2)))) = some (r1, r2, r3, r4) := h
 clear h
 by_cases c5 : a0_2 = true
 ·subst c5
  have H1 : ((salvorref16_Last.f k l1 a2 a3).bind fun bt351 => (some (bt351.1, bt351.2.1, bt351.2.2.1, bt351.2.2.2))) = some (r1, r2, r3, r4) := by rw [if_pos rfl] at H; exact H
  clear H
  have H := H1
  clear H1
  replace H := Option.bind_eq_some_iff.mp H
  obtain ⟨⟨t351, t352, t353, t354⟩, A60, H⟩ := H
  replace H : (some (t351, t352, t353, t354)) = some (r1, r2, r3, r4) := H
  have A6 := Aside0.mk A60
  clear A60
  simp only [Option.some.injEq, Prod.mk.injEq] at H
  obtain ⟨rfl, rfl, rfl, rfl⟩ := H
  go_enter Try.func62, Try.ntmps62
  go_wp2_with (first | ((with_reducible refine gate_dst (N := 4) rfl ?_); refine box_e 4 #[.int .i64 a0_0, .int .i64 a0_1, .bool true] 23 ?_; intro gb349 hg w7 hbox hb; have BK349 := Aside0.mk hbox; have GW349 := bg_ HB hg; have GE349 := bg_ HB hg; replace HB := bs_ HB hb; clear hb hbox hg) | ((with_reducible refine gate_dst (N := 8) rfl ?_); refine box_e 8 #[.int .i64 0, .int .i64 0, .int .u8 0] 33 ?_; intro gb350 hg w8 hbox hb; have BK350 := Aside0.mk hbox; have GW350 := bg_ HB hg; have GE350 := bg_ HB hg; have NB349_350 := bn_ BK349 hg; have NB350_349 := bm_ BK349 hg; replace BK349 := bb_ BK349 hb; replace HB := bs_ HB hb; clear hb hbox hg; have hnb9 := NB349_350.out; have hnc9 := NB350_349.out; obtain ⟨hcz10_0, hcz10_1, hcz10_2, hfz10_0, hfz10_1, hfz10_2⟩ := c3_ BK349) | ((with_reducible refine gate_callee (f := 68) rfl ?_); refine gl_ (some 15) rfl rfl Try.func68 (by kernel_rfl) rfl #[.slice A1 l1.length c1, .int .u8 a2, .int .i64 a3] rfl ?_; (with_reducible refine (salvorref16_Last.calls k _ _ l1 a2 a3 t351 t352 t353 t354 _ ?side1 ?side2 A6.out).mono ?_); (case side1 => exact cb_ HR1 HB); (case side2 => exact HC1.out); rintro e w11 ⟨rfl, hb⟩; refine ⟨_, rfl, ?_⟩; replace BK349 := bb_ BK349 hb; replace BK350 := bb_ BK350 hb; replace HB := bs_ HB hb; (try clear hb); obtain ⟨hcz12_0, hcz12_1, hcz12_2, hfz12_0, hfz12_1, hfz12_2⟩ := c3_ BK350))
  refine bodyPost_ret (results_ct rfl _ _ gb350 33 #[.int .i64 t351, .int .i64 t352, .int .u8 t353] (0, 0) _ rfl (bp_ BK350) Try.underlying33 rfl (by kernel_rfl)) rfl ?_
  exact ⟨by first | rfl | (simp [errW_none, errW_some] <;> rfl) | (simp [*, errW_none, errW_some] <;> rfl), bh_ HB⟩
 ·replace c5 := Bool.eq_false_iff.mpr c5
  subst c5
  have H1 : ((salvorref16_First.f k l1 a2 a3).bind fun bt355 => (some (bt355.1, bt355.2.1, bt355.2.2.1, bt355.2.2.2))) = some (r1, r2, r3, r4) := by rw [if_neg (show ¬ (false = true) by decide)] at H; exact H
  clear H
  have H := H1
  clear H1
  replace H := Option.bind_eq_some_iff.mp H
  obtain ⟨⟨t355, t356, t357, t358⟩, A130, H⟩ := H
  replace H : (some (t355, t356, t357, t358)) = some (r1, r2, r3, r4) := H
  have A13 := Aside0.mk A130
  clear A130
  simp only [Option.some.injEq, Prod.mk.injEq] at H
  obtain ⟨rfl, rfl, rfl, rfl⟩ := H
  go_enter Try.func62, Try.ntmps62
  go_wp2_with (first | ((with_reducible refine gate_dst (N := 4) rfl ?_); refine box_e 4 #[.int .i64 a0_0, .int .i64 a0_1, .bool false] 23 ?_; intro gb349 hg w14 hbox hb; have BK349 := Aside0.mk hbox; have GW349 := bg_ HB hg; have GE349 := bg_ HB hg; replace HB := bs_ HB hb; clear hb hbox hg) | ((with_reducible refine gate_dst (N := 8) rfl ?_); refine box_e 8 #[.int .i64 0, .int .i64 0, .int .u8 0] 33 ?_; intro gb350 hg w15 hbox hb; have BK350 := Aside0.mk hbox; have GW350 := bg_ HB hg; have GE350 := bg_ HB hg; have NB349_350 := bn_ BK349 hg; have NB350_349 := bm_ BK349 hg; replace BK349 := bb_ BK349 hb; replace HB := bs_ HB hb; clear hb hbox hg; have hnb16 := NB349_350.out; have hnc16 := NB350_349.out; obtain ⟨hcz17_0, hcz17_1, hcz17_2, hfz17_0, hfz17_1, hfz17_2⟩ := c3_ BK349) | ((with_reducible refine gate_callee (f := 69) rfl ?_); refine gl_ (some 21) rfl rfl Try.func69 (by kernel_rfl) rfl #[.slice A1 l1.length c1, .int .u8 a2, .int .i64 a3] rfl ?_; (with_reducible refine (salvorref16_First.calls k _ _ l1 a2 a3 t355 t356 t357 t358 _ ?side1 ?side2 A13.out).mono ?_); (case side1 => exact cb_ HR1 HB); (case side2 => exact HC1.out); rintro e w18 ⟨rfl, hb⟩; refine ⟨_, rfl, ?_⟩; replace BK349 := bb_ BK349 hb; replace BK350 := bb_ BK350 hb; replace HB := bs_ HB hb; (try clear hb); obtain ⟨hcz19_0, hcz19_1, hcz19_2, hfz19_0, hfz19_1, hfz19_2⟩ := c3_ BK350))
  refine bodyPost_ret (results_ct rfl _ _ gb350 33 #[.int .i64 t355, .int .i64 t356, .int .u8 t357] (0, 0) _ rfl (bp_ BK350) Try.underlying33 rfl (by kernel_rfl)) rfl ?_
  exact ⟨by first | rfl | (simp [errW_none, errW_some] <;> rfl) | (simp [*, errW_none, errW_some] <;> rfl), bh_ HB⟩

/-! ### salvorref16_part: function 63 -/
def salvorref16_part.f (a0_0 : Int) (a0_1 : Int) (a0_2 : Bool) (a1_0 : Int) (a1_1 : Int) (a1_2 : Int) (a2 : Int) (a3 : Int) : Option (Int × Int × Int) := if a0_2 = true then (some (a3, mx a1_0 (wrap64 ((wrap64 ((wrap64 ((wrap64 (a1_0 + a1_1)) - 1)) - (Int.tmod (wrap64 ((wrap64 (a1_0 + a1_1)) - 1)) 8))) - (wrap64 ((wrap64 (a2 - 1)) * 8)))), wrap64 ((wrap64 ((wrap64 ((wrap64 (a1_0 + a1_1)) - 1)) + 1)) - (mx a1_0 (wrap64 ((wrap64 ((wrap64 ((wrap64 (a1_0 + a1_1)) - 1)) - (Int.tmod (wrap64 ((wrap64 (a1_0 + a1_1)) - 1)) 8))) - (wrap64 ((wrap64 (a2 - 1)) * 8)))))))) else (some (a3, a1_0, wrap64 ((mn (wrap64 (a1_0 + a1_1)) (wrap64 ((wrap64 (a1_0 - (Int.tmod a1_0 8))) + (wrap64 (a2 * 8))))) - a1_0)))
set_option maxHeartbeats 8000000 in
set_option maxRecDepth 100000 in
theorem salvorref16_part.calls (a0_0 : Int) (a0_1 : Int) (a0_2 : Bool) (a1_0 : Int) (a1_1 : Int) (a1_2 : Int) (a2 : Int) (a3 : Int) (r1 : Int) (r2 : Int) (r3 : Int) (w : World) (h : salvorref16_part.f a0_0 a0_1 a0_2 a1_0 a1_1 a1_2 a2 a3 = some (r1, r2, r3)) :
  Calls Try.prog 63 #[.agg #[.int .i64 a0_0, .int .i64 a0_1, .bool a0_2], .agg #[.int .i64 a1_0, .int .i64 a1_1, .int .u8 a1_2], .int .i64 a2, .int .i64 a3] w fun e w' => e = .returned (.agg #[.int .i64 r1, .int .i64 r2, .int .i64 r3]) ∧ Below w.heap.size w w' := by
 have hu23 := Try.underlying23
 have hu33 := Try.underlying33
 have hu29 := Try.underlying29
 have HB := Aside0.mk (Below.refl w.heap.size w)
 have H : (if a0_2 = true then (some (a3, mx a1_0 (wrap64 ((wrap64 ((wrap64 ((wrap64 (a1_0 + a1_1)) - 1)) - (Int.tmod (wrap64 ((wrap64 (a1_0 + a1_1)) - 1)) 8))) - (wrap64 ((wrap64 (a2 - 1)) * 8)))), wrap64 ((wrap64 ((wrap64 ((wrap64 (a1_0 + a1_1)) - 1)) + 1)) - (mx a1_0 (wrap64 ((wrap64 ((wrap64 ((wrap64 (a1_0 + a1_1)) - 1)) - (Int.tmod (wrap64 ((wrap64 (a1_0 + a1_1)) - 1)) 8))) - (wrap64 ((wrap64 (a2 - 1)) * 8)))))))) else (some (a3, a1_0, wrap64 ((mn (wrap64 (a1_0 + a1_1)) (wrap64 ((wrap64 (a1_0 - (Int.tmod a1_0 8))) + (wrap64 (a2 * 8))))) - a1_0)))) = some (r1, r2, r3) := h
 clear h
 by_cases c5 : a0_2 = true
 ·subst c5
  have H1 : (some (a3, mx a1_0 (wrap64 ((wrap64 ((wrap64 ((wrap64 (a1_0 + a1_1)) - 1)) - (Int.tmod (wrap64 ((wrap64 (a1_0 + a1_1)) - 1)) 8))) - (wrap64 ((wrap64 (a2 - 1)) * 8)))), wrap64 ((wrap64 ((wrap64 ((wrap64 (a1_0 + a1_1)) - 1)) + 1)) - (mx a1_0 (wrap64 ((wrap64 ((wrap64 ((wrap64 (a1_0 + a1_1)) - 1)) - (Int.tmod (wrap64 ((wrap64 (a1_0 + a1_1)) - 1)) 8))) - (wrap64 ((wrap64 (a2 - 1)) * 8)))))))) = some (r1, r2, r3) := by rw [if_pos rfl] at H; exact H
  clear H
  have H := H1
  clear H1
  obtain ⟨ji6, hji6⟩ : ∃ j_ : Int, (mx a1_0 (wrap64 ((wrap64 ((wrap64 ((wrap64 (a1_0 + a1_1)) - 1)) - (Int.tmod (wrap64 ((wrap64 (a1_0 + a1_1)) - 1)) 8))) - (wrap64 ((wrap64 (a2 - 1)) * 8))))) = j_ := ⟨_, rfl⟩
  replace H : (some (a3, ji6, wrap64 ((wrap64 ((wrap64 ((wrap64 (a1_0 + a1_1)) - 1)) + 1)) - (ji6)))) = some (r1, r2, r3) := by first | (rw [hji6] at H; exact H) | (simp only [hji6] at H ⊢; exact H)
  have hji6_ : (if a1_0 < (wrap64 ((wrap64 ((wrap64 ((wrap64 (a1_0 + a1_1)) - 1)) - (Int.tmod (wrap64 ((wrap64 (a1_0 + a1_1)) - 1)) 8))) - (wrap64 ((wrap64 (a2 - 1)) * 8)))) then (wrap64 ((wrap64 ((wrap64 ((wrap64 (a1_0 + a1_1)) - 1)) - (Int.tmod (wrap64 ((wrap64 (a1_0 + a1_1)) - 1)) 8))) - (wrap64 ((wrap64 (a2 - 1)) * 8)))) else a1_0) = ji6 := hji6
  have hji6k_ : (if a1_0 < (IntKind.i64.wrap ((IntKind.i64.wrap ((IntKind.i64.wrap ((IntKind.i64.wrap (a1_0 + a1_1)) - 1)) - (Int.tmod (IntKind.i64.wrap ((IntKind.i64.wrap (a1_0 + a1_1)) - 1)) 8))) - (IntKind.i64.wrap ((IntKind.i64.wrap (a2 - 1)) * 8)))) then (IntKind.i64.wrap ((IntKind.i64.wrap ((IntKind.i64.wrap ((IntKind.i64.wrap (a1_0 + a1_1)) - 1)) - (Int.tmod (IntKind.i64.wrap ((IntKind.i64.wrap (a1_0 + a1_1)) - 1)) 8))) - (IntKind.i64.wrap ((IntKind.i64.wrap (a2 - 1)) * 8)))) else a1_0) = ji6 := by simp only [i64_w]; exact hji6_
  simp only [Option.some.injEq, Prod.mk.injEq] at H
  obtain ⟨rfl, rfl, rfl⟩ := H
  go_enter Try.func63, Try.ntmps63
  go_wp2_with (first | ((with_reducible refine gate_dst (N := 4) rfl ?_); refine box_e 4 #[.int .i64 a0_0, .int .i64 a0_1, .bool true] 23 ?_; intro gb359 hg w7 hbox hb; have BK359 := Aside0.mk hbox; have GW359 := bg_ HB hg; have GE359 := bg_ HB hg; replace HB := bs_ HB hb; clear hb hbox hg) | ((with_reducible refine gate_dst (N := 5) rfl ?_); refine box_e 5 #[.int .i64 a1_0, .int .i64 a1_1, .int .u8 a1_2] 33 ?_; intro gb360 hg w8 hbox hb; have BK360 := Aside0.mk hbox; have GW360 := bg_ HB hg; have GE360 := bg_ HB hg; have NB359_360 := bn_ BK359 hg; have NB360_359 := bm_ BK359 hg; replace BK359 := bb_ BK359 hb; replace HB := bs_ HB hb; clear hb hbox hg) | ((with_reducible refine gate_dst (N := 8) rfl ?_); refine box_e 8 #[.int .i64 0, .int .i64 0, .int .i64 0] 29 ?_; intro gb361 hg w9 hbox hb; have BK361 := Aside0.mk hbox; have GW361 := bg_ HB hg; have GE361 := bg_ HB hg; have NB359_361 := bn_ BK359 hg; have NB361_359 := bm_ BK359 hg; have NB360_361 := bn_ BK360 hg; have NB361_360 := bm_ BK360 hg; replace BK359 := bb_ BK359 hb; replace BK360 := bb_ BK360 hb; replace HB := bs_ HB hb; clear hb hbox hg; have hnb10 := NB359_360.out; have hnc10 := NB360_359.out; have hnb11 := NB359_361.out; have hnc11 := NB361_359.out; obtain ⟨hcz12_0, hcz12_1, hcz12_2, hfz12_0, hfz12_1, hfz12_2⟩ := c3_ BK359; have hnb13 := NB360_361.out; have hnc13 := NB361_360.out; obtain ⟨hcz14_0, hcz14_1, hcz14_2, hfz14_0, hfz14_1, hfz14_2⟩ := c3_ BK360; obtain ⟨hcz15_0, hcz15_1, hcz15_2, hfz15_0, hfz15_1, hfz15_2⟩ := c3_ BK361))
  refine bodyPost_ret (results_cell_row rfl _ _ gb361 29 #[.int .i64 a3, .int .i64 ji6, .int .i64 (wrap64 ((wrap64 ((wrap64 ((wrap64 (a1_0 + a1_1)) - 1)) + 1)) - (ji6)))] (0, 0) _ rfl (bp_ BK361) Try.underlying29 rfl (by kernel_rfl)) rfl ?_
  exact ⟨by first | rfl | (simp [errW_none, errW_some] <;> rfl) | (simp only [← hji6]; first | rfl | (simp [errW_none, errW_some] <;> rfl)) | (simp [*, errW_none, errW_some] <;> rfl), bh_ HB⟩
 ·replace c5 := Bool.eq_false_iff.mpr c5
  subst c5
  have H1 : (some (a3, a1_0, wrap64 ((mn (wrap64 (a1_0 + a1_1)) (wrap64 ((wrap64 (a1_0 - (Int.tmod a1_0 8))) + (wrap64 (a2 * 8))))) - a1_0))) = some (r1, r2, r3) := by rw [if_neg (show ¬ (false = true) by decide)] at H; exact H
  clear H
  have H := H1
  clear H1
  obtain ⟨ji16, hji16⟩ : ∃ j_ : Int, (mn (wrap64 (a1_0 + a1_1)) (wrap64 ((wrap64 (a1_0 - (Int.tmod a1_0 8))) + (wrap64 (a2 * 8))))) = j_ := ⟨_, rfl⟩
  replace H : (some (a3, a1_0, wrap64 ((ji16) - a1_0))) = some (r1, r2, r3) := by first | (rw [hji16] at H; exact H) | (simp only [hji16] at H ⊢; exact H)
  have hji16_ : (if (wrap64 ((wrap64 (a1_0 - (Int.tmod a1_0 8))) + (wrap64 (a2 * 8)))) < (wrap64 (a1_0 + a1_1)) then (wrap64 ((wrap64 (a1_0 - (Int.tmod a1_0 8))) + (wrap64 (a2 * 8)))) else (wrap64 (a1_0 + a1_1))) = ji16 := hji16
  have hji16k_ : (if (IntKind.i64.wrap ((IntKind.i64.wrap (a1_0 - (Int.tmod a1_0 8))) + (IntKind.i64.wrap (a2 * 8)))) < (IntKind.i64.wrap (a1_0 + a1_1)) then (IntKind.i64.wrap ((IntKind.i64.wrap (a1_0 - (Int.tmod a1_0 8))) + (IntKind.i64.wrap (a2 * 8)))) else (IntKind.i64.wrap (a1_0 + a1_1))) = ji16 := by simp only [i64_w]; exact hji16_
  simp only [Option.some.injEq, Prod.mk.injEq] at H
  obtain ⟨rfl, rfl, rfl⟩ := H
  go_enter Try.func63, Try.ntmps63
  go_wp2_with (first | ((with_reducible refine gate_dst (N := 4) rfl ?_); refine box_e 4 #[.int .i64 a0_0, .int .i64 a0_1, .bool false] 23 ?_; intro gb359 hg w17 hbox hb; have BK359 := Aside0.mk hbox; have GW359 := bg_ HB hg; have GE359 := bg_ HB hg; replace HB := bs_ HB hb; clear hb hbox hg) | ((with_reducible refine gate_dst (N := 5) rfl ?_); refine box_e 5 #[.int .i64 a1_0, .int .i64 a1_1, .int .u8 a1_2] 33 ?_; intro gb360 hg w18 hbox hb; have BK360 := Aside0.mk hbox; have GW360 := bg_ HB hg; have GE360 := bg_ HB hg; have NB359_360 := bn_ BK359 hg; have NB360_359 := bm_ BK359 hg; replace BK359 := bb_ BK359 hb; replace HB := bs_ HB hb; clear hb hbox hg) | ((with_reducible refine gate_dst (N := 8) rfl ?_); refine box_e 8 #[.int .i64 0, .int .i64 0, .int .i64 0] 29 ?_; intro gb361 hg w19 hbox hb; have BK361 := Aside0.mk hbox; have GW361 := bg_ HB hg; have GE361 := bg_ HB hg; have NB359_361 := bn_ BK359 hg; have NB361_359 := bm_ BK359 hg; have NB360_361 := bn_ BK360 hg; have NB361_360 := bm_ BK360 hg; replace BK359 := bb_ BK359 hb; replace BK360 := bb_ BK360 hb; replace HB := bs_ HB hb; clear hb hbox hg; have hnb20 := NB359_360.out; have hnc20 := NB360_359.out; have hnb21 := NB359_361.out; have hnc21 := NB361_359.out; obtain ⟨hcz22_0, hcz22_1, hcz22_2, hfz22_0, hfz22_1, hfz22_2⟩ := c3_ BK359; have hnb23 := NB360_361.out; have hnc23 := NB361_360.out; obtain ⟨hcz24_0, hcz24_1, hcz24_2, hfz24_0, hfz24_1, hfz24_2⟩ := c3_ BK360; obtain ⟨hcz25_0, hcz25_1, hcz25_2, hfz25_0, hfz25_1, hfz25_2⟩ := c3_ BK361))
  refine bodyPost_ret (results_cell_row rfl _ _ gb361 29 #[.int .i64 a3, .int .i64 a1_0, .int .i64 (wrap64 ((ji16) - a1_0))] (0, 0) _ rfl (bp_ BK361) Try.underlying29 rfl (by kernel_rfl)) rfl ?_
  exact ⟨by first | rfl | (simp [errW_none, errW_some] <;> rfl) | (simp only [← hji16]; first | rfl | (simp [errW_none, errW_some] <;> rfl)) | (simp [*, errW_none, errW_some] <;> rfl), bh_ HB⟩

end Go.Proofs.Ytnoilinjlelpaaa.P
