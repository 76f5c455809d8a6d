/- Laid by a program of this session's own (wip/wprint.py, over the kit's print.py): functions of the given program as plain Lean functions, and that the program's calls come to their answers. -/
import Derived.Test.YtnoilinjlelpaaaPx0
import Derived.Test.YtnoilinjlelpaaaPx20
import Derived.Test.YtnoilinjlelpaaaPx24
import Derived.Test.YtnoilinjlelpaaaPx25
import Derived.Test.YtnoilinjlelpaaaPx28
namespace Go.Proofs.Ytnoilinjlelpaaa.P
open Go.RowKit Go.Proofs.YtnoilinjlelpaaaW.PrintWords Go.Proofs.YtnoilinjlelpaaaW.PrintLast Go.Proofs.YtnoilinjlelpaaaW.PrintMore
attribute [local go_sem] max2_int min2_int max_two min_two max_three min_three max_four min_four   -- for this text's walks alone
set_option linter.unusedVariables false
set_option linter.unusedSimpArgs false

/-! ### salvorref16_next: function 41 -/
mutual
def salvorref16_next.j0 : Nat → Bool → Int → Int → Bool → Int → Int → Int → List (S33) → Option (Int × Int × Int × Bool)
 | 0, _, _, _, _, _, _, _, _ => none
 | k + 1, x23, x363000, x363001, x363002, x364000, x364001, x364002, x364003 => if x23 = true then (some (0, 0, 0, false)) else (salvorref16_next.j1 k x363000 x363001 x363002 x364000 x364001 x364002 x364003)
def salvorref16_next.j1 : Nat → Int → Int → Bool → Int → Int → Int → List (S33) → Option (Int × Int × Int × Bool)
 | 0, _, _, _, _, _, _, _ => none
 | k + 1, x363000, x363001, x363002, x364000, x364001, x364002, x364003 => (salvorref16_begin.f k x363000 x363001 x363002 x364003).bind fun t367 => ((salvorref16_side.f k x363000 x363001 x363002 x364003 63 t367).bind fun bt368 => (if bt368.2.2.2 = true then ((salvorref16_part.f x363000 x363001 x363002 bt368.1 bt368.2.1 bt368.2.2.1 x363000 1).bind fun bt373 => (some (bt373.1, bt373.2.1, bt373.2.2, false))) else (salvorref16_next.j2 k x363000 x363001 x363002 x364000 x364001 x364002 x364003)))
def salvorref16_next.j2 : Nat → Int → Int → Bool → Int → Int → Int → List (S33) → Option (Int × Int × Int × Bool)
 | 0, _, _, _, _, _, _, _ => none
 | k + 1, x363000, x363001, x363002, x364000, x364001, x364002, x364003 => (salvorref16_begin.f k x363000 x363001 x363002 x364003).bind fun t376 => ((salvorref16_side.f k x363000 x363001 x363002 x364003 42 t376).bind fun bt377 => (if bt377.2.2.2 = true then ((salvorref16_part.f x363000 x363001 x363002 bt377.1 bt377.2.1 bt377.2.2.1 1 2).bind fun bt382 => (some (bt382.1, bt382.2.1, bt382.2.2, false))) else (salvorref16_next.j3 k x363000 x363001 x363002 x364000 x364001 x364002 x364003)))
def salvorref16_next.j3 : Nat → Int → Int → Bool → Int → Int → Int → List (S33) → Option (Int × Int × Int × Bool)
 | 0, _, _, _, _, _, _, _ => none
 | k + 1, x363000, x363001, x363002, x364000, x364001, x364002, x364003 => (salvorref16_begin.f k x363000 x363001 x363002 x364003).bind fun t385 => ((salvorref16_side.f k x363000 x363001 x363002 x364003 47 t385).bind fun bt386 => (if bt386.2.2.2 = true then ((salvorref16_part.f x363000 x363001 x363002 bt386.1 bt386.2.1 bt386.2.2.1 1 3).bind fun bt391 => (some (bt391.1, bt391.2.1, bt391.2.2, false))) else (salvorref16_next.j4 k x363000 x363001 x363002 x364000 x364001 x364002 x364003)))
def salvorref16_next.j4 : Nat → Int → Int → Bool → Int → Int → Int → List (S33) → Option (Int × Int × Int × Bool)
 | 0, _, _, _, _, _, _, _ => none
 | k + 1, x363000, x363001, x363002, x364000, x364001, x364002, x364003 => if x364001 ≥ x363001 then (some (0, 0, 0, false)) else (salvorref16_next.j5 k x363000 x363001 x363002 x364000 x364001 x364002 x364003)
def salvorref16_next.j5 : Nat → Int → Int → Bool → Int → Int → Int → List (S33) → Option (Int × Int × Int × Bool)
 | 0, _, _, _, _, _, _, _ => none
 | k + 1, x363000, x363001, x363002, x364000, x364001, x364002, x364003 => (salvorref16_side.f k x363000 x363001 x363002 x364003 45 x364000).bind fun bt394 => (if bt394.2.2.2 = true then ((salvorref16_part.f x363000 x363001 x363002 bt394.1 bt394.2.1 bt394.2.2.1 1 4).bind fun bt399 => (some (bt399.1, bt399.2.1, bt399.2.2, false))) else (salvorref16_next.j6 k x363000 x363001 x363002 x364000 x364001 x364002 x364003))
def salvorref16_next.j6 : Nat → Int → Int → Bool → Int → Int → Int → List (S33) → Option (Int × Int × Int × Bool)
 | 0, _, _, _, _, _, _, _ => none
 | k + 1, x363000, x363001, x363002, x364000, x364001, x364002, x364003 => (salvorref16_begin.f k x363000 x363001 x363002 x364003).bind fun t402 => ((salvorref16_side.f k x363000 x363001 x363002 x364003 45 t402).bind fun bt403 => (if bt403.2.2.2 = true then (salvorref16_next.j7 k (decide ((wrap64 (x364001 + 1)) < x363001)) x363000 x363001 x363002 bt403.1 bt403.2.1 bt403.2.2.1) else (salvorref16_next.j7 k false x363000 x363001 x363002 bt403.1 bt403.2.1 bt403.2.2.1)))
def salvorref16_next.j7 : Nat → Bool → Int → Int → Bool → Int → Int → Int → Option (Int × Int × Int × Bool)
 | 0, _, _, _, _, _, _, _ => none
 | k + 1, x110, x363000, x363001, x363002, x408000, x408001, x408002 => if x110 = true then ((salvorref16_part.f x363000 x363001 x363002 x408000 x408001 x408002 1 4).bind fun bt408 => (some (bt408.1, bt408.2.1, bt408.2.2, true))) else (some (0, 0, 0, false))
end
def salvorref16_next.f (k : Nat) (a0_0 : Int) (a0_1 : Int) (a0_2 : Bool) (a1_0 : Int) (a1_1 : Int) (a1_2 : Int) (l1_3 : List (S33)) : Option (Int × Int × Int × Bool) := (salvorref16_MayOpts.f a0_0 a0_1 a0_2).bind fun t365 => (if t365 = true then ((salvorref16_MayMap.f k a1_0 a1_1 a1_2 l1_3).bind fun t366 => (salvorref16_next.j0 k (!t366) a0_0 a0_1 a0_2 a1_0 a1_1 a1_2 l1_3)) else (salvorref16_next.j0 k true a0_0 a0_1 a0_2 a1_0 a1_1 a1_2 l1_3))
theorem salvorref16_next.mono_l : ∀ k, (∀ y0 y1 y2 y3 y4 y5 y6 y7, LeO (salvorref16_next.j0 k y0 y1 y2 y3 y4 y5 y6 y7) (salvorref16_next.j0 (k + 1) y0 y1 y2 y3 y4 y5 y6 y7)) ∧ (∀ y0 y1 y2 y3 y4 y5 y6, LeO (salvorref16_next.j1 k y0 y1 y2 y3 y4 y5 y6) (salvorref16_next.j1 (k + 1) y0 y1 y2 y3 y4 y5 y6)) ∧ (∀ y0 y1 y2 y3 y4 y5 y6, LeO (salvorref16_next.j2 k y0 y1 y2 y3 y4 y5 y6) (salvorref16_next.j2 (k + 1) y0 y1 y2 y3 y4 y5 y6)) ∧ (∀ y0 y1 y2 y3 y4 y5 y6, LeO (salvorref16_next.j3 k y0 y1 y2 y3 y4 y5 y6) (salvorref16_next.j3 (k + 1) y0 y1 y2 y3 y4 y5 y6)) ∧ (∀ y0 y1 y2 y3 y4 y5 y6, LeO (salvorref16_next.j4 k y0 y1 y2 y3 y4 y5 y6) (salvorref16_next.j4 (k + 1) y0 y1 y2 y3 y4 y5 y6)) ∧ (∀ y0 y1 y2 y3 y4 y5 y6, LeO (salvorref16_next.j5 k y0 y1 y2 y3 y4 y5 y6) (salvorref16_next.j5 (k + 1) y0 y1 y2 y3 y4 y5 y6)) ∧ (∀ y0 y1 y2 y3 y4 y5 y6, LeO (salvorref16_next.j6 k y0 y1 y2 y3 y4 y5 y6) (salvorref16_next.j6 (k + 1) y0 y1 y2 y3 y4 y5 y6)) ∧ (∀ y0 y1 y2 y3 y4 y5 y6, LeO (salvorref16_next.j7 k y0 y1 y2 y3 y4 y5 y6) (salvorref16_next.j7 (k + 1) y0 y1 y2 y3 y4 y5 y6))
 | 0 => ⟨fun _ _ _ _ _ _ _ _ r h => by simp [salvorref16_next.j0] at h, fun _ _ _ _ _ _ _ r h => by simp [salvorref16_next.j1] at h, fun _ _ _ _ _ _ _ r h => by simp [salvorref16_next.j2] at h, fun _ _ _ _ _ _ _ r h => by simp [salvorref16_next.j3] at h, fun _ _ _ _ _ _ _ r h => by simp [salvorref16_next.j4] at h, fun _ _ _ _ _ _ _ r h => by simp [salvorref16_next.j5] at h, fun _ _ _ _ _ _ _ r h => by simp [salvorref16_next.j6] at h, fun _ _ _ _ _ _ _ r h => by simp [salvorref16_next.j7] at h⟩
 | k + 1 => by
  obtain ⟨ih0, ih1, ih2, ih3, ih4, ih5, ih6, ih7⟩ := salvorref16_next.mono_l k
  refine ⟨?_, ?_, ?_, ?_, ?_, ?_, ?_, ?_⟩
  all_goals intros
  all_goals first | unfold salvorref16_next.j0 | unfold salvorref16_next.j1 | unfold salvorref16_next.j2 | unfold salvorref16_next.j3 | unfold salvorref16_next.j4 | unfold salvorref16_next.j5 | unfold salvorref16_next.j6 | unfold salvorref16_next.j7
  all_goals repeat' first | (with_reducible exact ih0 _ _ _ _ _ _ _ _) | (with_reducible exact ih1 _ _ _ _ _ _ _) | (with_reducible exact ih2 _ _ _ _ _ _ _) | (with_reducible exact ih3 _ _ _ _ _ _ _) | (with_reducible exact ih4 _ _ _ _ _ _ _) | (with_reducible exact ih5 _ _ _ _ _ _ _) | (with_reducible exact ih6 _ _ _ _ _ _ _) | (with_reducible exact ih7 _ _ _ _ _ _ _) | (with_reducible exact salvorref16_MayMap.mono _ _ _ _ _) | (with_reducible exact salvorref16_begin.mono _ _ _ _ _) | (with_reducible exact salvorref16_side.mono _ _ _ _ _ _ _) | (with_reducible exact LeO.refl _) | (with_reducible exact LeO.none _) | (with_reducible refine LeO.ite ?_ ?_) | (with_reducible refine LeO.bind ?_ (fun _ => ?_)) | exact ih0 _ _ _ _ _ _ _ _ | exact ih1 _ _ _ _ _ _ _ | exact ih2 _ _ _ _ _ _ _ | exact ih3 _ _ _ _ _ _ _ | exact ih4 _ _ _ _ _ _ _ | exact ih5 _ _ _ _ _ _ _ | exact ih6 _ _ _ _ _ _ _ | exact ih7 _ _ _ _ _ _ _ | exact salvorref16_MayMap.mono _ _ _ _ _ | exact salvorref16_begin.mono _ _ _ _ _ | exact salvorref16_side.mono _ _ _ _ _ _ _ | exact LeO.none _ | refine LeO.ite ?_ ?_ | refine LeO.bind ?_ (fun _ => ?_)
theorem salvorref16_next.mono : ∀ a0 a1 a2 a3 a4 a5 a6 k, LeO (salvorref16_next.f k a0 a1 a2 a3 a4 a5 a6) (salvorref16_next.f (k + 1) a0 a1 a2 a3 a4 a5 a6) := by
 intro a0 a1 a2 a3 a4 a5 a6 k
 obtain ⟨ih0, ih1, ih2, ih3, ih4, ih5, ih6, ih7⟩ := salvorref16_next.mono_l k
 unfold salvorref16_next.f
 repeat' first
   | (with_reducible exact ih0 _ _ _ _ _ _ _ _)
   | (with_reducible exact ih1 _ _ _ _ _ _ _)
   | (with_reducible exact ih2 _ _ _ _ _ _ _)
   | (with_reducible exact ih3 _ _ _ _ _ _ _)
   | (with_reducible exact ih4 _ _ _ _ _ _ _)
   | (with_reducible exact ih5 _ _ _ _ _ _ _)
   | (with_reducible exact ih6 _ _ _ _ _ _ _)
   | (with_reducible exact ih7 _ _ _ _ _ _ _)
   | (with_reducible exact salvorref16_MayMap.mono _ _ _ _ _)
   | (with_reducible exact salvorref16_begin.mono _ _ _ _ _)
   | (with_reducible exact salvorref16_side.mono _ _ _ _ _ _ _)
   | (with_reducible exact LeO.refl _)
   | (with_reducible exact LeO.none _)
   | (with_reducible refine LeO.ite ?_ ?_)
   | (with_reducible refine LeO.bind ?_ (fun _ => ?_))
   | exact ih0 _ _ _ _ _ _ _ _
   | exact ih1 _ _ _ _ _ _ _
   | exact ih2 _ _ _ _ _ _ _
   | exact ih3 _ _ _ _ _ _ _
   | exact ih4 _ _ _ _ _ _ _
   | exact ih5 _ _ _ _ _ _ _
   | exact ih6 _ _ _ _ _ _ _
   | exact ih7 _ _ _ _ _ _ _
   | exact salvorref16_MayMap.mono _ _ _ _ _
   | exact salvorref16_begin.mono _ _ _ _ _
   | exact salvorref16_side.mono _ _ _ _ _ _ _
   | exact LeO.none _
   | refine LeO.ite ?_ ?_
   | refine LeO.bind ?_ (fun _ => ?_)
set_option maxHeartbeats 8000000 in
set_option maxRecDepth 100000 in
theorem salvorref16_next.calls (k : Nat) (a0_0 : Int) (a0_1 : Int) (a0_2 : Bool) (a1_0 : Int) (a1_1 : Int) (a1_2 : Int) (A1_3 : Option Addr) (c1_3 : Nat) (l1_3 : List (S33)) (r1 : Int) (r2 : Int) (r3 : Int) (r4 : Bool) (w : World) (hr1_3 : Kd.C k33 w A1_3 l1_3.length l1_3) (hc1_3 : l1_3.length ≤ c1_3) (h : salvorref16_next.f k a0_0 a0_1 a0_2 a1_0 a1_1 a1_2 l1_3 = some (r1, r2, r3, r4)) :
  Calls Try.prog 41 #[.agg #[.int .i64 a0_0, .int .i64 a0_1, .bool a0_2], .agg #[.int .i64 a1_0, .int .i64 a1_1, .int .u8 a1_2, .slice A1_3 l1_3.length c1_3]] w fun e w' => e = .returned (.tuple #[.agg #[.int .i64 r1, .int .i64 r2, .int .i64 r3], .bool r4]) ∧ Below w.heap.size w w' := by
 have hu23 := Try.underlying23; have hu26 := Try.underlying26; have hu29 := Try.underlying29; have hu33 := Try.underlying33; have HR1_3 := Aside0.mk hr1_3; have HC1_3 := Aside0.mk hc1_3; clear hr1_3 hc1_3
 have HB := Aside0.mk (Below.refl w.heap.size w)
 have H : ((salvorref16_MayOpts.f a0_0 a0_1 a0_2).bind fun t365 => (if t365 = true then ((salvorref16_MayMap.f k a1_0 a1_1 a1_2 l1_3).bind fun t366 => (salvorref16_next.j0 k (!t366) a0_0 a0_1 a0_2 a1_0 a1_1 a1_2 l1_3)) else (salvorref16_next.j0 k true a0_0 a0_1 a0_2 a1_0 a1_1 a1_2 l1_3))) = some (r1, r2, r3, r4) := h
 clear h; have HC3 := Aside0.mk H; clear H
 go_enter Try.func41, Try.ntmps41
 go_upto_region 1 with (first | ((with_reducible refine gate_dst (N := 2) rfl ?_); refine box_e 2 #[.int .i64 a0_0, .int .i64 a0_1, .bool a0_2] 23 ?_; intro gb362 hg w4 hbox hb; have BK362 := Aside0.mk hbox; have GW362 := bg_ HB hg; have GE362 := bg_ HB hg; replace HB := bs_ HB hb; clear hb hbox hg) | ((with_reducible refine gate_dst (N := 3) rfl ?_); refine box_e 3 #[.int .i64 a1_0, .int .i64 a1_1, .int .u8 a1_2, .slice A1_3 l1_3.length c1_3] 26 ?_; intro gb363 hg w5 hbox hb; have BK363 := Aside0.mk hbox; have GW363 := bg_ HB hg; have GE363 := bg_ HB hg; have NB362_363 := bn_ BK362 hg; have NB363_362 := bm_ BK362 hg; replace BK362 := bb_ BK362 hb; replace HB := bs_ HB hb; clear hb hbox hg) | ((with_reducible refine gate_dst (N := 4) rfl ?_); refine box_e 4 #[.int .i64 0, .int .i64 0, .int .i64 0] 29 ?_; intro gb364 hg w6 hbox hb; have BK364 := Aside0.mk hbox; have GW364 := bg_ HB hg; have GE364 := bg_ HB hg; have NB362_364 := bn_ BK362 hg; have NB364_362 := bm_ BK362 hg; have NB363_364 := bn_ BK363 hg; have NB364_363 := bm_ BK363 hg; replace BK362 := bb_ BK362 hb; replace BK363 := bb_ BK363 hb; replace HB := bs_ HB hb; clear hb hbox hg))
 (try simp only [Act.put, List.setIfInBounds_toArray, List.set_cons_zero, List.set_cons_succ])
 go_cut [23] (fun v23 wc => ∃ (kq : Nat) (x23_2 : Bool), v23 = .bool x23_2 ∧ Aside0 (salvorref16_next.j0 kq x23_2 a0_0 a0_1 a0_2 a1_0 a1_1 a1_2 l1_3 = some (r1, r2, r3, r4)) ∧ Aside0 (kq ≤ k) ∧ Aside0 (wc.heap[gb362]? = some (.cells #[.int .i64 a0_0, .int .i64 a0_1, .bool a0_2] 23 (0, 0))) ∧ Aside0 (wc.heap[gb363]? = some (.cells #[.int .i64 a1_0, .int .i64 a1_1, .int .u8 a1_2, (.slice A1_3 l1_3.length c1_3)] 26 (0, 0))) ∧ Aside0 (wc.heap[gb364]? = some (.cells #[.int .i64 0, .int .i64 0, .int .i64 0] 29 (0, 0))) ∧ Aside0 (Below w.heap.size w wc))
 case first =>
  have H := HC3.out; clear HC3; replace H := Option.bind_eq_some_iff.mp H; obtain ⟨t365, A70, H⟩ := H
  replace H : (if t365 = true then ((salvorref16_MayMap.f k a1_0 a1_1 a1_2 l1_3).bind fun t366 => (salvorref16_next.j0 k (!t366) a0_0 a0_1 a0_2 a1_0 a1_1 a1_2 l1_3)) else (salvorref16_next.j0 k true a0_0 a0_1 a0_2 a1_0 a1_1 a1_2 l1_3)) = some (r1, r2, r3, r4) := H
  have A7 := Aside0.mk A70; clear A70
  by_cases c8 : t365 = true
  ·subst c8
   have H1 : ((salvorref16_MayMap.f k a1_0 a1_1 a1_2 l1_3).bind fun t366 => (salvorref16_next.j0 k (!t366) a0_0 a0_1 a0_2 a1_0 a1_1 a1_2 l1_3)) = some (r1, r2, r3, r4) := by rw [if_pos rfl] at H; exact H
   clear H; have H := H1; clear H1; replace H := Option.bind_eq_some_iff.mp H; obtain ⟨t366, A90, H⟩ := H
   replace H : (salvorref16_next.j0 k (!t366) a0_0 a0_1 a0_2 a1_0 a1_1 a1_2 l1_3) = some (r1, r2, r3, r4) := H
   have A9 := Aside0.mk A90; clear A90
   have H' := Aside0.mk H
   clear H; have hnb10 := NB362_363.out; have hnc10 := NB363_362.out; have hnb11 := NB362_364.out; have hnc11 := NB364_362.out; obtain ⟨hcz12_0, hcz12_1, hcz12_2, hfz12_0, hfz12_1, hfz12_2⟩ := c3_ BK362
   go_wp2_with (first | ((with_reducible refine gate_callee (f := 25) rfl ?_); refine gl_ (some 17) rfl rfl Try.func25 (by kernel_rfl) rfl #[.agg #[.int .i64 a0_0, .int .i64 a0_1, .bool a0_2]] rfl ?_; (with_reducible refine (salvorref16_MayOpts.calls a0_0 a0_1 a0_2 true _ A7.out).mono ?_); rintro e w13 ⟨rfl, hb⟩; refine ⟨_, rfl, ?_⟩; replace BK362 := bb_ BK362 hb; replace BK363 := bb_ BK363 hb; replace BK364 := bb_ BK364 hb; replace HB := bs_ HB hb; (try clear hb); have hnb14 := NB363_364.out; have hnc14 := NB364_363.out; obtain ⟨hcz15_0, hcz15_1, hcz15_2, hcz15_3, hfz15_0, hfz15_1, hfz15_2, hfz15_3⟩ := c4_ BK363) | (go_at_call 40; (with_reducible refine (salvorref16_MayMap.calls k a1_0 a1_1 a1_2 _ _ l1_3 t366 _ ?side1 ?side2 A9.out).mono ?_); (case side1 => exact cb_ HR1_3 HB); (case side2 => exact HC1_3.out); rintro e w16 ⟨rfl, hb⟩; replace BK362 := bb_ BK362 hb; replace BK363 := bb_ BK363 hb; replace BK364 := bb_ BK364 hb; replace HB := bs_ HB hb; (try clear hb)))
   go_meet
   case rel => exact ⟨_, (!t366), (by first | rfl | (simp; done) | (simp [*]; done)), H', ⟨by first | omega | exact Nat.le_refl _⟩, ⟨bq_ BK362⟩, ⟨bq_ BK363⟩, ⟨bq_ BK364⟩, ⟨bh_ HB⟩⟩
  ·replace c8 := Bool.eq_false_iff.mpr c8
   subst c8
   have H1 : (salvorref16_next.j0 k true a0_0 a0_1 a0_2 a1_0 a1_1 a1_2 l1_3) = some (r1, r2, r3, r4) := by rw [if_neg (show ¬ (false = true) by decide)] at H; exact H
   clear H; have H := H1; clear H1
   have H' := Aside0.mk H
   clear H; have hnb17 := NB362_363.out; have hnc17 := NB363_362.out; have hnb18 := NB362_364.out; have hnc18 := NB364_362.out; obtain ⟨hcz19_0, hcz19_1, hcz19_2, hfz19_0, hfz19_1, hfz19_2⟩ := c3_ BK362
   go_wp2_with (first | ((with_reducible refine gate_callee (f := 25) rfl ?_); refine gl_ (some 17) rfl rfl Try.func25 (by kernel_rfl) rfl #[.agg #[.int .i64 a0_0, .int .i64 a0_1, .bool a0_2]] rfl ?_; (with_reducible refine (salvorref16_MayOpts.calls a0_0 a0_1 a0_2 false _ A7.out).mono ?_); rintro e w20 ⟨rfl, hb⟩; refine ⟨_, rfl, ?_⟩; replace BK362 := bb_ BK362 hb; replace BK363 := bb_ BK363 hb; replace BK364 := bb_ BK364 hb; replace HB := bs_ HB hb; (try clear hb)))
   go_meet
   case rel => exact ⟨_, (true), (by first | rfl | (simp; done) | (simp [*]; done)), H', ⟨by first | omega | exact Nat.le_refl _⟩, ⟨bq_ BK362⟩, ⟨bq_ BK363⟩, ⟨bq_ BK364⟩, ⟨bh_ HB⟩⟩
 case rest =>
  clear HC3; (try clear c1); (try clear c2); (try clear p2); (try clear c4); (try clear c8); (try clear c10); (try clear c11); (try clear c14); (try clear c17); (try clear c18); (try clear hcz12_0 hcz12_1 hcz12_2); (try clear hcz15_0 hcz15_1 hcz15_2 hcz15_3); (try clear hcz19_0 hcz19_1 hcz19_2); (try clear hfz12_0 hfz12_1 hfz12_2); (try clear hfz15_0 hfz15_1 hfz15_2 hfz15_3); (try clear hfz19_0 hfz19_1 hfz19_2); obtain ⟨kq, x23_2, rfl, HA, HJ2, BK362, BK363, BK364, HB⟩ := hcut
  cases kq with
  | zero => exact absurd HA.out (by simp [salvorref16_next.j0])
  | succ kj2 =>
   have H := HA.out; clear HA; simp only [salvorref16_next.j0] at H; have HC21 := Aside0.mk H; clear H
   go_upto_if 23 with (fail)
   go_cut [] (fun wc => ∃ (kq : Nat) (x365000_20 : Int) (x365001_20 : Int) (x365002_20 : Int), Aside0 (salvorref16_next.j1 kq a0_0 a0_1 a0_2 a1_0 a1_1 a1_2 l1_3 = some (r1, r2, r3, r4)) ∧ Aside0 (kq ≤ kj2) ∧ Aside0 (wc.heap[gb362]? = some (.cells #[.int .i64 a0_0, .int .i64 a0_1, .bool a0_2] 23 (0, 0))) ∧ Aside0 (wc.heap[gb363]? = some (.cells #[.int .i64 a1_0, .int .i64 a1_1, .int .u8 a1_2, (.slice A1_3 l1_3.length c1_3)] 26 (0, 0))) ∧ Aside0 (wc.heap[gb364]? = some (.cells #[.int .i64 x365000_20, .int .i64 x365001_20, .int .i64 x365002_20] 29 (0, 0))) ∧ Aside0 (Below w.heap.size w wc))
   case first =>
    have H := HC21.out; clear HC21
    by_cases c22 : x23_2 = true
    ·subst c22
     have H1 : (some (0, 0, 0, false)) = some (r1, r2, r3, r4) := by rw [if_pos rfl] at H; exact H
     clear H; have H := H1; clear H1; simp only [Option.some.injEq, Prod.mk.injEq] at H; obtain ⟨rfl, rfl, rfl, rfl⟩ := H; have hnb23 := NB364_362.out; have hnc23 := NB362_364.out; have hnb24 := NB364_363.out; have hnc24 := NB363_364.out; obtain ⟨hcz25_0, hcz25_1, hcz25_2, hfz25_0, hfz25_1, hfz25_2⟩ := c3_ BK364; go_wp2
     refine bodyPost_ret (results_ct rfl _ _ gb364 29 #[.int .i64 0, .int .i64 0, .int .i64 0] (0, 0) _ rfl (bp_ BK364) Try.underlying29 rfl (by kernel_rfl)) rfl ?_
     exact ⟨by first | rfl | (simp [errW_none, errW_some] <;> rfl) | (simp [*, errW_none, errW_some] <;> rfl), bh_ HB⟩
    ·replace c22 := Bool.eq_false_iff.mpr c22
     subst c22
     have H1 : (salvorref16_next.j1 kj2 a0_0 a0_1 a0_2 a1_0 a1_1 a1_2 l1_3) = some (r1, r2, r3, r4) := by rw [if_neg (show ¬ (false = true) by decide)] at H; exact H
     clear H; have H := H1; clear H1
     have H' := Aside0.mk H
     clear H; go_wp2; go_meet
     case rel => exact ⟨_, (0), (0), (0), H', ⟨by have := HJ2.out; first | omega | exact Nat.le_refl _⟩, ⟨bq_ BK362⟩, ⟨bq_ BK363⟩, ⟨bq_ BK364⟩, ⟨bh_ HB⟩⟩
   case rest =>
    clear HC21; (try clear c1); (try clear c2); (try clear p2); (try clear c4); (try clear c8); (try clear c10); (try clear c11); (try clear c14); (try clear c17); (try clear c18); (try clear c22); (try clear c23); (try clear c24); (try clear c25); (try clear hcz12_0 hcz12_1 hcz12_2); (try clear hcz15_0 hcz15_1 hcz15_2 hcz15_3); (try clear hcz19_0 hcz19_1 hcz19_2); (try clear hcz25_0 hcz25_1 hcz25_2); (try clear hfz12_0 hfz12_1 hfz12_2); (try clear hfz15_0 hfz15_1 hfz15_2 hfz15_3); (try clear hfz19_0 hfz19_1 hfz19_2); (try clear hfz25_0 hfz25_1 hfz25_2); (try clear p2); obtain ⟨kq, x365000_20, x365001_20, x365002_20, HA, HJ20, BK362, BK363, BK364, HB⟩ := hcut
    have H := HA.out
    clear HA
    cases kq with
    | zero => exact absurd H (by simp [salvorref16_next.j1])
    | succ k1 =>
     simp only [salvorref16_next.j1] at H
     obtain ⟨q1, hq1, H⟩ := Option.bind_eq_some_iff.mp H
     obtain ⟨⟨u1, v1, y1, z1⟩, hs1, H⟩ := Option.bind_eq_some_iff.mp H
     have AQ := Aside0.mk hq1
     have AS := Aside0.mk hs1
     have HC := Aside0.mk H
     clear H hq1 hs1
     go_upto_region 4 with (fail)
     go_cut [6, 7] (fun va vb wc => ∃ gb : Nat, va = .pointer (some ⟨gb, 0, none⟩) ∧ vb = .bool z1 ∧ Aside0 (wc.heap[gb]? = some (.cells #[.int .i64 u1, .int .i64 v1, .int .u8 y1] 33 (0, 0))) ∧ Aside0 (wc.heap[gb362]? = some (.cells #[.int .i64 a0_0, .int .i64 a0_1, .bool a0_2] 23 (0, 0))) ∧ Aside0 (wc.heap[gb363]? = some (.cells #[.int .i64 a1_0, .int .i64 a1_1, .int .u8 a1_2, .slice A1_3 l1_3.length c1_3] 26 (0, 0))) ∧ Aside0 (wc.heap[gb364]? = some (.cells #[.int .i64 x365000_20, .int .i64 x365001_20, .int .i64 x365002_20] 29 (0, 0))) ∧ Aside0 (Below w.heap.size w wc))
     case first =>
      have b0 := HB.out
      have b1 := BK362.out
      have b2 := BK363.out
      have b3 := BK364.out
      have HKS : ∀ w' : World, Below w.heap.size w w' → w'.heap[gb362]? = some (.cells #[.int .i64 a0_0, .int .i64 a0_1, .bool a0_2] 23 (0, 0)) → w'.heap[gb363]? = some (.cells #[.int .i64 a1_0, .int .i64 a1_1, .int .u8 a1_2, .slice A1_3 l1_3.length c1_3] 26 (0, 0)) → w'.heap[gb364]? = some (.cells #[.int .i64 x365000_20, .int .i64 x365001_20, .int .i64 x365002_20] 29 (0, 0)) → (w'.cell? ⟨gb362, 0, none⟩ = some (.int .i64 a0_0) ∧ w'.cell? ⟨gb362, 1, none⟩ = some (.int .i64 a0_1) ∧ w'.cell? ⟨gb362, 2, none⟩ = some (.bool a0_2) ∧ w'.cell? ⟨gb363, 3, none⟩ = some (.slice A1_3 l1_3.length c1_3) ∧ Below w.heap.size w w' ∧ w'.heap[gb362]? = some (.cells #[.int .i64 a0_0, .int .i64 a0_1, .bool a0_2] 23 (0, 0)) ∧ w'.heap[gb363]? = some (.cells #[.int .i64 a1_0, .int .i64 a1_1, .int .u8 a1_2, .slice A1_3 l1_3.length c1_3] 26 (0, 0)) ∧ w'.heap[gb364]? = some (.cells #[.int .i64 x365000_20, .int .i64 x365001_20, .int .i64 x365002_20] 29 (0, 0))) := fun W h0 h1 h2 h3 => ⟨(blk_cell h1 0).trans rfl, (blk_cell h1 1).trans rfl, (blk_cell h1 2).trans rfl, (blk_cell h2 3).trans rfl, h0, h1, h2, h3⟩
      have hNX : ∀ (X W' : World) (o : Obj) (g : Nat) (o1 : Obj), W'.heap[X.heap.size]? = some o → X.heap[g]? = some o1 → g ≠ X.heap.size := fun X W' o g o1 _ h => Nat.ne_of_lt (blk_lt h)
      have hNB : ∀ (X W' : World) (o : Obj), W'.heap[X.heap.size]? = some o → Below w.heap.size w X → w.heap.size ≤ X.heap.size := fun X W' o _ h => below_size h
      try go_wp2
      go_region_held3 (fun w' => w'.cell? ⟨gb362, 0, none⟩ = some (.int .i64 a0_0) ∧ w'.cell? ⟨gb362, 1, none⟩ = some (.int .i64 a0_1) ∧ w'.cell? ⟨gb362, 2, none⟩ = some (.bool a0_2) ∧ w'.cell? ⟨gb363, 3, none⟩ = some (.slice A1_3 l1_3.length c1_3) ∧ Below w.heap.size w w' ∧ w'.heap[gb362]? = some (.cells #[.int .i64 a0_0, .int .i64 a0_1, .bool a0_2] 23 (0, 0)) ∧ w'.heap[gb363]? = some (.cells #[.int .i64 a1_0, .int .i64 a1_1, .int .u8 a1_2, .slice A1_3 l1_3.length c1_3] 26 (0, 0)) ∧ w'.heap[gb364]? = some (.cells #[.int .i64 x365000_20, .int .i64 x365001_20, .int .i64 x365002_20] 29 (0, 0)))
       ((go_split_ands; (with_reducible refine HKS _ ?_ ?_ ?_ ?_) <;> (with_reducible repeat (first | assumption | refine blk_drew ?_ | refine blk_alloc ?_ _ | refine blk_below ?_ hb | refine below_drew1 ?_ | refine below_alloc ?_ _ | refine below_step ?_ hb | refine blk_far ?_ (by assumption) _ | refine below_set ?_ (by assumption)))))
       (first
        | (go_at_call 52; go_split_ands; (with_reducible refine (salvorref16_begin.calls k1 a0_0 a0_1 a0_2 _ _ l1_3 q1 _ (Kd.C_below HR1_3.out ?ka1) HC1_3.out AQ.out).mono ?_); (case ka1 => (with_reducible repeat (first | assumption | refine blk_drew ?_ | refine blk_alloc ?_ _ | refine below_drew1 ?_ | refine below_alloc ?_ _))); rintro e w11 ⟨rfl, hb⟩; have kk := HKS w11 (by (with_reducible repeat (first | assumption | refine blk_drew ?_ | refine blk_alloc ?_ _ | refine blk_below ?_ hb | refine below_drew1 ?_ | refine below_alloc ?_ _ | refine below_step ?_ hb))) (by (with_reducible repeat (first | assumption | refine blk_drew ?_ | refine blk_alloc ?_ _ | refine blk_below ?_ hb | refine below_drew1 ?_ | refine below_alloc ?_ _ | refine below_step ?_ hb))) (by (with_reducible repeat (first | assumption | refine blk_drew ?_ | refine blk_alloc ?_ _ | refine blk_below ?_ hb | refine below_drew1 ?_ | refine below_alloc ?_ _ | refine below_step ?_ hb))) (by (with_reducible repeat (first | assumption | refine blk_drew ?_ | refine blk_alloc ?_ _ | refine blk_below ?_ hb | refine below_drew1 ?_ | refine below_alloc ?_ _ | refine below_step ?_ hb))); (try ((first | have kb := blk_below (blk_new _ _) hb | have kb := blk_below (blk_drew (blk_new _ _)) hb); have kn1 := hNX _ _ _ _ _ kb (by assumption : _ = some (Obj.cells #[.int .i64 a0_0, .int .i64 a0_1, .bool a0_2] 23 (0, 0))); have kn2 := hNX _ _ _ _ _ kb (by assumption : _ = some (Obj.cells #[.int .i64 a1_0, .int .i64 a1_1, .int .u8 a1_2, .slice A1_3 l1_3.length c1_3] 26 (0, 0))); have kn3 := hNX _ _ _ _ _ kb (by assumption : _ = some (Obj.cells #[.int .i64 x365000_20, .int .i64 x365001_20, .int .i64 x365002_20] 29 (0, 0))); have kn4 := hNB _ _ _ kb (by assumption); obtain ⟨kc0, kc1, kc2, kf0, kf1, kf2⟩ := c3_ ⟨kb⟩)))
        | (go_at_call 62; go_split_ands; (with_reducible refine (salvorref16_side.calls k1 a0_0 a0_1 a0_2 _ _ l1_3 63 q1 u1 v1 y1 z1 _ (Kd.C_below HR1_3.out ?kc1) HC1_3.out AS.out).mono ?_); (case kc1 => (with_reducible repeat (first | assumption | refine blk_drew ?_ | refine blk_alloc ?_ _ | refine below_drew1 ?_ | refine below_alloc ?_ _))); rintro e w12 ⟨rfl, hb⟩; have kk := HKS w12 (by (with_reducible repeat (first | assumption | refine blk_drew ?_ | refine blk_alloc ?_ _ | refine blk_below ?_ hb | refine below_drew1 ?_ | refine below_alloc ?_ _ | refine below_step ?_ hb))) (by (with_reducible repeat (first | assumption | refine blk_drew ?_ | refine blk_alloc ?_ _ | refine blk_below ?_ hb | refine below_drew1 ?_ | refine below_alloc ?_ _ | refine below_step ?_ hb))) (by (with_reducible repeat (first | assumption | refine blk_drew ?_ | refine blk_alloc ?_ _ | refine blk_below ?_ hb | refine below_drew1 ?_ | refine below_alloc ?_ _ | refine below_step ?_ hb))) (by (with_reducible repeat (first | assumption | refine blk_drew ?_ | refine blk_alloc ?_ _ | refine blk_below ?_ hb | refine below_drew1 ?_ | refine below_alloc ?_ _ | refine below_step ?_ hb))); (try (have kb2 := blk_below kb hb; obtain ⟨kd0, kd1, kd2, ke0, ke1, ke2⟩ := c3_ ⟨kb2⟩)); (try ((first | have kb := blk_below (blk_new _ _) hb | have kb := blk_below (blk_drew (blk_new _ _)) hb); have kn1 := hNX _ _ _ _ _ kb (by assumption : _ = some (Obj.cells #[.int .i64 a0_0, .int .i64 a0_1, .bool a0_2] 23 (0, 0))); have kn2 := hNX _ _ _ _ _ kb (by assumption : _ = some (Obj.cells #[.int .i64 a1_0, .int .i64 a1_1, .int .u8 a1_2, .slice A1_3 l1_3.length c1_3] 26 (0, 0))); have kn3 := hNX _ _ _ _ _ kb (by assumption : _ = some (Obj.cells #[.int .i64 x365000_20, .int .i64 x365001_20, .int .i64 x365002_20] 29 (0, 0))); have kn4 := hNB _ _ _ kb (by assumption); obtain ⟨kc0, kc1, kc2, kf0, kf1, kf2⟩ := c3_ ⟨kb⟩))))
      all_goals go_split_ands
      all_goals
       try go_wp2
       go_meet
       exact ⟨_, rfl, rfl, ⟨by first | exact blk_new _ _ | exact blk_set (blk_set (blk_set kb2 0 _) 1 _) 2 _ | exact blk_set (blk_set (blk_set kb 0 _) 1 _) 2 _⟩, ⟨by assumption⟩, ⟨by assumption⟩, ⟨by assumption⟩, ⟨by assumption⟩⟩
     case rest =>
      clear BK362 BK363 BK364 HB
      obtain ⟨gb, rfl, rfl, BX, BK362, BK363, BK364, HB⟩ := hcut
      have H := HC.out
      clear HC AQ AS
      cases z1 with
      | true =>
       rw [if_pos rfl] at H
       obtain ⟨⟨t1, t2, t3⟩, A38, H⟩ := Option.bind_eq_some_iff.mp H
       simp only [Option.some.injEq, Prod.mk.injEq] at H
       obtain ⟨rfl, rfl, rfl, rfl⟩ := H
       have hA := Aside0.mk A38
       clear A38
       obtain ⟨i0, i1, i2, _, _, _⟩ := c3_ BK362
       obtain ⟨j0, j1, j2, _, _, _⟩ := c3_ BX
       go_wp2_with (first | (go_at_call 63; (with_reducible refine (salvorref16_part.calls a0_0 a0_1 a0_2 u1 v1 y1 a0_0 1 t1 t2 t3 _ hA.out).mono ?_); rintro e w46 ⟨rfl, hb⟩; replace BK364 := bb_ BK364 hb; replace HB := bs_ HB hb; clear hb i0 i1 i2 j0 j1 j2; obtain ⟨i0, i1, i2, j0, j1, j2⟩ := c3_ BK364))
       refine bodyPost_ret (results_ct rfl _ _ gb364 29 #[.int .i64 t1, .int .i64 t2, .int .i64 t3] (0, 0) _ rfl (bp_ BK364) Try.underlying29 rfl (by kernel_rfl)) rfl ?_
       exact ⟨rfl, bh_ HB⟩
      | false =>
       rw [if_neg (by simp)] at H
       clear BX
       try go_wp2
       cases k1 with
       | zero => exact absurd H (by simp [salvorref16_next.j2])
       | succ k2 =>
        simp only [salvorref16_next.j2] at H
        obtain ⟨q2, hq2, H⟩ := Option.bind_eq_some_iff.mp H
        obtain ⟨⟨u2, v2, y2, z2⟩, hs2, H⟩ := Option.bind_eq_some_iff.mp H
        have AQ := Aside0.mk hq2
        have AS := Aside0.mk hs2
        have HC := Aside0.mk H
        clear H hq2 hs2
        go_upto_region 7 with (fail)
        go_cut [8, 9] (fun va vb wc => ∃ gb : Nat, va = .pointer (some ⟨gb, 0, none⟩) ∧ vb = .bool z2 ∧ Aside0 (wc.heap[gb]? = some (.cells #[.int .i64 u2, .int .i64 v2, .int .u8 y2] 33 (0, 0))) ∧ Aside0 (wc.heap[gb362]? = some (.cells #[.int .i64 a0_0, .int .i64 a0_1, .bool a0_2] 23 (0, 0))) ∧ Aside0 (wc.heap[gb363]? = some (.cells #[.int .i64 a1_0, .int .i64 a1_1, .int .u8 a1_2, .slice A1_3 l1_3.length c1_3] 26 (0, 0))) ∧ Aside0 (wc.heap[gb364]? = some (.cells #[.int .i64 x365000_20, .int .i64 x365001_20, .int .i64 x365002_20] 29 (0, 0))) ∧ Aside0 (Below w.heap.size w wc))
        case first =>
         have b0 := HB.out
         have b1 := BK362.out
         have b2 := BK363.out
         have b3 := BK364.out
         have HKS : ∀ w' : World, Below w.heap.size w w' → w'.heap[gb362]? = some (.cells #[.int .i64 a0_0, .int .i64 a0_1, .bool a0_2] 23 (0, 0)) → w'.heap[gb363]? = some (.cells #[.int .i64 a1_0, .int .i64 a1_1, .int .u8 a1_2, .slice A1_3 l1_3.length c1_3] 26 (0, 0)) → w'.heap[gb364]? = some (.cells #[.int .i64 x365000_20, .int .i64 x365001_20, .int .i64 x365002_20] 29 (0, 0)) → (w'.cell? ⟨gb362, 0, none⟩ = some (.int .i64 a0_0) ∧ w'.cell? ⟨gb362, 1, none⟩ = some (.int .i64 a0_1) ∧ w'.cell? ⟨gb362, 2, none⟩ = some (.bool a0_2) ∧ w'.cell? ⟨gb363, 3, none⟩ = some (.slice A1_3 l1_3.length c1_3) ∧ Below w.heap.size w w' ∧ w'.heap[gb362]? = some (.cells #[.int .i64 a0_0, .int .i64 a0_1, .bool a0_2] 23 (0, 0)) ∧ w'.heap[gb363]? = some (.cells #[.int .i64 a1_0, .int .i64 a1_1, .int .u8 a1_2, .slice A1_3 l1_3.length c1_3] 26 (0, 0)) ∧ w'.heap[gb364]? = some (.cells #[.int .i64 x365000_20, .int .i64 x365001_20, .int .i64 x365002_20] 29 (0, 0))) := fun W h0 h1 h2 h3 => ⟨(blk_cell h1 0).trans rfl, (blk_cell h1 1).trans rfl, (blk_cell h1 2).trans rfl, (blk_cell h2 3).trans rfl, h0, h1, h2, h3⟩
         have hNX : ∀ (X W' : World) (o : Obj) (g : Nat) (o1 : Obj), W'.heap[X.heap.size]? = some o → X.heap[g]? = some o1 → g ≠ X.heap.size := fun X W' o g o1 _ h => Nat.ne_of_lt (blk_lt h)
         have hNB : ∀ (X W' : World) (o : Obj), W'.heap[X.heap.size]? = some o → Below w.heap.size w X → w.heap.size ≤ X.heap.size := fun X W' o _ h => below_size h
         try go_wp2
         go_region_held3 (fun w' => w'.cell? ⟨gb362, 0, none⟩ = some (.int .i64 a0_0) ∧ w'.cell? ⟨gb362, 1, none⟩ = some (.int .i64 a0_1) ∧ w'.cell? ⟨gb362, 2, none⟩ = some (.bool a0_2) ∧ w'.cell? ⟨gb363, 3, none⟩ = some (.slice A1_3 l1_3.length c1_3) ∧ Below w.heap.size w w' ∧ w'.heap[gb362]? = some (.cells #[.int .i64 a0_0, .int .i64 a0_1, .bool a0_2] 23 (0, 0)) ∧ w'.heap[gb363]? = some (.cells #[.int .i64 a1_0, .int .i64 a1_1, .int .u8 a1_2, .slice A1_3 l1_3.length c1_3] 26 (0, 0)) ∧ w'.heap[gb364]? = some (.cells #[.int .i64 x365000_20, .int .i64 x365001_20, .int .i64 x365002_20] 29 (0, 0)))
          ((go_split_ands; (with_reducible refine HKS _ ?_ ?_ ?_ ?_) <;> (with_reducible repeat (first | assumption | refine blk_drew ?_ | refine blk_alloc ?_ _ | refine blk_below ?_ hb | refine below_drew1 ?_ | refine below_alloc ?_ _ | refine below_step ?_ hb | refine blk_far ?_ (by assumption) _ | refine below_set ?_ (by assumption)))))
          (first
           | (go_at_call 52; go_split_ands; (with_reducible refine (salvorref16_begin.calls k2 a0_0 a0_1 a0_2 _ _ l1_3 q2 _ (Kd.C_below HR1_3.out ?ka2) HC1_3.out AQ.out).mono ?_); (case ka2 => (with_reducible repeat (first | assumption | refine blk_drew ?_ | refine blk_alloc ?_ _ | refine below_drew1 ?_ | refine below_alloc ?_ _))); rintro e w11 ⟨rfl, hb⟩; have kk := HKS w11 (by (with_reducible repeat (first | assumption | refine blk_drew ?_ | refine blk_alloc ?_ _ | refine blk_below ?_ hb | refine below_drew1 ?_ | refine below_alloc ?_ _ | refine below_step ?_ hb))) (by (with_reducible repeat (first | assumption | refine blk_drew ?_ | refine blk_alloc ?_ _ | refine blk_below ?_ hb | refine below_drew1 ?_ | refine below_alloc ?_ _ | refine below_step ?_ hb))) (by (with_reducible repeat (first | assumption | refine blk_drew ?_ | refine blk_alloc ?_ _ | refine blk_below ?_ hb | refine below_drew1 ?_ | refine below_alloc ?_ _ | refine below_step ?_ hb))) (by (with_reducible repeat (first | assumption | refine blk_drew ?_ | refine blk_alloc ?_ _ | refine blk_below ?_ hb | refine below_drew1 ?_ | refine below_alloc ?_ _ | refine below_step ?_ hb))); (try ((first | have kb := blk_below (blk_new _ _) hb | have kb := blk_below (blk_drew (blk_new _ _)) hb); have kn1 := hNX _ _ _ _ _ kb (by assumption : _ = some (Obj.cells #[.int .i64 a0_0, .int .i64 a0_1, .bool a0_2] 23 (0, 0))); have kn2 := hNX _ _ _ _ _ kb (by assumption : _ = some (Obj.cells #[.int .i64 a1_0, .int .i64 a1_1, .int .u8 a1_2, .slice A1_3 l1_3.length c1_3] 26 (0, 0))); have kn3 := hNX _ _ _ _ _ kb (by assumption : _ = some (Obj.cells #[.int .i64 x365000_20, .int .i64 x365001_20, .int .i64 x365002_20] 29 (0, 0))); have kn4 := hNB _ _ _ kb (by assumption); obtain ⟨kc0, kc1, kc2, kf0, kf1, kf2⟩ := c3_ ⟨kb⟩)))
           | (go_at_call 62; go_split_ands; (with_reducible refine (salvorref16_side.calls k2 a0_0 a0_1 a0_2 _ _ l1_3 42 q2 u2 v2 y2 z2 _ (Kd.C_below HR1_3.out ?kc2) HC1_3.out AS.out).mono ?_); (case kc2 => (with_reducible repeat (first | assumption | refine blk_drew ?_ | refine blk_alloc ?_ _ | refine below_drew1 ?_ | refine below_alloc ?_ _))); rintro e w12 ⟨rfl, hb⟩; have kk := HKS w12 (by (with_reducible repeat (first | assumption | refine blk_drew ?_ | refine blk_alloc ?_ _ | refine blk_below ?_ hb | refine below_drew1 ?_ | refine below_alloc ?_ _ | refine below_step ?_ hb))) (by (with_reducible repeat (first | assumption | refine blk_drew ?_ | refine blk_alloc ?_ _ | refine blk_below ?_ hb | refine below_drew1 ?_ | refine below_alloc ?_ _ | refine below_step ?_ hb))) (by (with_reducible repeat (first | assumption | refine blk_drew ?_ | refine blk_alloc ?_ _ | refine blk_below ?_ hb | refine below_drew1 ?_ | refine below_alloc ?_ _ | refine below_step ?_ hb))) (by (with_reducible repeat (first | assumption | refine blk_drew ?_ | refine blk_alloc ?_ _ | refine blk_below ?_ hb | refine below_drew1 ?_ | refine below_alloc ?_ _ | refine below_step ?_ hb))); (try (have kb2 := blk_below kb hb; obtain ⟨kd0, kd1, kd2, ke0, ke1, ke2⟩ := c3_ ⟨kb2⟩)); (try ((first | have kb := blk_below (blk_new _ _) hb | have kb := blk_below (blk_drew (blk_new _ _)) hb); have kn1 := hNX _ _ _ _ _ kb (by assumption : _ = some (Obj.cells #[.int .i64 a0_0, .int .i64 a0_1, .bool a0_2] 23 (0, 0))); have kn2 := hNX _ _ _ _ _ kb (by assumption : _ = some (Obj.cells #[.int .i64 a1_0, .int .i64 a1_1, .int .u8 a1_2, .slice A1_3 l1_3.length c1_3] 26 (0, 0))); have kn3 := hNX _ _ _ _ _ kb (by assumption : _ = some (Obj.cells #[.int .i64 x365000_20, .int .i64 x365001_20, .int .i64 x365002_20] 29 (0, 0))); have kn4 := hNB _ _ _ kb (by assumption); obtain ⟨kc0, kc1, kc2, kf0, kf1, kf2⟩ := c3_ ⟨kb⟩))))
         all_goals go_split_ands
         all_goals
          try go_wp2
          go_meet
          exact ⟨_, rfl, rfl, ⟨by first | exact blk_new _ _ | exact blk_set (blk_set (blk_set kb2 0 _) 1 _) 2 _ | exact blk_set (blk_set (blk_set kb 0 _) 1 _) 2 _⟩, ⟨by assumption⟩, ⟨by assumption⟩, ⟨by assumption⟩, ⟨by assumption⟩⟩
        case rest =>
         clear BK362 BK363 BK364 HB
         obtain ⟨gb, rfl, rfl, BX, BK362, BK363, BK364, HB⟩ := hcut
         have H := HC.out
         clear HC AQ AS
         cases z2 with
         | true =>
          rw [if_pos rfl] at H
          obtain ⟨⟨t1, t2, t3⟩, A38, H⟩ := Option.bind_eq_some_iff.mp H
          simp only [Option.some.injEq, Prod.mk.injEq] at H
          obtain ⟨rfl, rfl, rfl, rfl⟩ := H
          have hA := Aside0.mk A38
          clear A38
          obtain ⟨i0, i1, i2, _, _, _⟩ := c3_ BK362
          obtain ⟨j0, j1, j2, _, _, _⟩ := c3_ BX
          go_wp2_with (first | (go_at_call 63; (with_reducible refine (salvorref16_part.calls a0_0 a0_1 a0_2 u2 v2 y2 1 2 t1 t2 t3 _ hA.out).mono ?_); rintro e w46 ⟨rfl, hb⟩; replace BK364 := bb_ BK364 hb; replace HB := bs_ HB hb; clear hb i0 i1 i2 j0 j1 j2; obtain ⟨i0, i1, i2, j0, j1, j2⟩ := c3_ BK364))
          refine bodyPost_ret (results_ct rfl _ _ gb364 29 #[.int .i64 t1, .int .i64 t2, .int .i64 t3] (0, 0) _ rfl (bp_ BK364) Try.underlying29 rfl (by kernel_rfl)) rfl ?_
          exact ⟨rfl, bh_ HB⟩
         | false =>
          rw [if_neg (by simp)] at H
          clear BX
          try go_wp2
          cases k2 with
          | zero => exact absurd H (by simp [salvorref16_next.j3])
          | succ k3 =>
           simp only [salvorref16_next.j3] at H
           obtain ⟨q3, hq3, H⟩ := Option.bind_eq_some_iff.mp H
           obtain ⟨⟨u3, v3, y3, z3⟩, hs3, H⟩ := Option.bind_eq_some_iff.mp H
           have AQ := Aside0.mk hq3
           have AS := Aside0.mk hs3
           have HC := Aside0.mk H
           clear H hq3 hs3
           go_upto_region 10 with (fail)
           go_cut [10, 11] (fun va vb wc => ∃ gb : Nat, va = .pointer (some ⟨gb, 0, none⟩) ∧ vb = .bool z3 ∧ Aside0 (wc.heap[gb]? = some (.cells #[.int .i64 u3, .int .i64 v3, .int .u8 y3] 33 (0, 0))) ∧ Aside0 (wc.heap[gb362]? = some (.cells #[.int .i64 a0_0, .int .i64 a0_1, .bool a0_2] 23 (0, 0))) ∧ Aside0 (wc.heap[gb363]? = some (.cells #[.int .i64 a1_0, .int .i64 a1_1, .int .u8 a1_2, .slice A1_3 l1_3.length c1_3] 26 (0, 0))) ∧ Aside0 (wc.heap[gb364]? = some (.cells #[.int .i64 x365000_20, .int .i64 x365001_20, .int .i64 x365002_20] 29 (0, 0))) ∧ Aside0 (Below w.heap.size w wc))
           case first =>
            have b0 := HB.out
            have b1 := BK362.out
            have b2 := BK363.out
            have b3 := BK364.out
            have HKS : ∀ w' : World, Below w.heap.size w w' → w'.heap[gb362]? = some (.cells #[.int .i64 a0_0, .int .i64 a0_1, .bool a0_2] 23 (0, 0)) → w'.heap[gb363]? = some (.cells #[.int .i64 a1_0, .int .i64 a1_1, .int .u8 a1_2, .slice A1_3 l1_3.length c1_3] 26 (0, 0)) → w'.heap[gb364]? = some (.cells #[.int .i64 x365000_20, .int .i64 x365001_20, .int .i64 x365002_20] 29 (0, 0)) → (w'.cell? ⟨gb362, 0, none⟩ = some (.int .i64 a0_0) ∧ w'.cell? ⟨gb362, 1, none⟩ = some (.int .i64 a0_1) ∧ w'.cell? ⟨gb362, 2, none⟩ = some (.bool a0_2) ∧ w'.cell? ⟨gb363, 3, none⟩ = some (.slice A1_3 l1_3.length c1_3) ∧ Below w.heap.size w w' ∧ w'.heap[gb362]? = some (.cells #[.int .i64 a0_0, .int .i64 a0_1, .bool a0_2] 23 (0, 0)) ∧ w'.heap[gb363]? = some (.cells #[.int .i64 a1_0, .int .i64 a1_1, .int .u8 a1_2, .slice A1_3 l1_3.length c1_3] 26 (0, 0)) ∧ w'.heap[gb364]? = some (.cells #[.int .i64 x365000_20, .int .i64 x365001_20, .int .i64 x365002_20] 29 (0, 0))) := fun W h0 h1 h2 h3 => ⟨(blk_cell h1 0).trans rfl, (blk_cell h1 1).trans rfl, (blk_cell h1 2).trans rfl, (blk_cell h2 3).trans rfl, h0, h1, h2, h3⟩
            have hNX : ∀ (X W' : World) (o : Obj) (g : Nat) (o1 : Obj), W'.heap[X.heap.size]? = some o → X.heap[g]? = some o1 → g ≠ X.heap.size := fun X W' o g o1 _ h => Nat.ne_of_lt (blk_lt h)
            have hNB : ∀ (X W' : World) (o : Obj), W'.heap[X.heap.size]? = some o → Below w.heap.size w X → w.heap.size ≤ X.heap.size := fun X W' o _ h => below_size h
            try go_wp2
            go_region_held3 (fun w' => w'.cell? ⟨gb362, 0, none⟩ = some (.int .i64 a0_0) ∧ w'.cell? ⟨gb362, 1, none⟩ = some (.int .i64 a0_1) ∧ w'.cell? ⟨gb362, 2, none⟩ = some (.bool a0_2) ∧ w'.cell? ⟨gb363, 3, none⟩ = some (.slice A1_3 l1_3.length c1_3) ∧ Below w.heap.size w w' ∧ w'.heap[gb362]? = some (.cells #[.int .i64 a0_0, .int .i64 a0_1, .bool a0_2] 23 (0, 0)) ∧ w'.heap[gb363]? = some (.cells #[.int .i64 a1_0, .int .i64 a1_1, .int .u8 a1_2, .slice A1_3 l1_3.length c1_3] 26 (0, 0)) ∧ w'.heap[gb364]? = some (.cells #[.int .i64 x365000_20, .int .i64 x365001_20, .int .i64 x365002_20] 29 (0, 0)))
             ((go_split_ands; (with_reducible refine HKS _ ?_ ?_ ?_ ?_) <;> (with_reducible repeat (first | assumption | refine blk_drew ?_ | refine blk_alloc ?_ _ | refine blk_below ?_ hb | refine below_drew1 ?_ | refine below_alloc ?_ _ | refine below_step ?_ hb | refine blk_far ?_ (by assumption) _ | refine below_set ?_ (by assumption)))))
             (first
              | (go_at_call 52; go_split_ands; (with_reducible refine (salvorref16_begin.calls k3 a0_0 a0_1 a0_2 _ _ l1_3 q3 _ (Kd.C_below HR1_3.out ?ka3) HC1_3.out AQ.out).mono ?_); (case ka3 => (with_reducible repeat (first | assumption | refine blk_drew ?_ | refine blk_alloc ?_ _ | refine below_drew1 ?_ | refine below_alloc ?_ _))); rintro e w11 ⟨rfl, hb⟩; have kk := HKS w11 (by (with_reducible repeat (first | assumption | refine blk_drew ?_ | refine blk_alloc ?_ _ | refine blk_below ?_ hb | refine below_drew1 ?_ | refine below_alloc ?_ _ | refine below_step ?_ hb))) (by (with_reducible repeat (first | assumption | refine blk_drew ?_ | refine blk_alloc ?_ _ | refine blk_below ?_ hb | refine below_drew1 ?_ | refine below_alloc ?_ _ | refine below_step ?_ hb))) (by (with_reducible repeat (first | assumption | refine blk_drew ?_ | refine blk_alloc ?_ _ | refine blk_below ?_ hb | refine below_drew1 ?_ | refine below_alloc ?_ _ | refine below_step ?_ hb))) (by (with_reducible repeat (first | assumption | refine blk_drew ?_ | refine blk_alloc ?_ _ | refine blk_below ?_ hb | refine below_drew1 ?_ | refine below_alloc ?_ _ | refine below_step ?_ hb))); (try ((first | have kb := blk_below (blk_new _ _) hb | have kb := blk_below (blk_drew (blk_new _ _)) hb); have kn1 := hNX _ _ _ _ _ kb (by assumption : _ = some (Obj.cells #[.int .i64 a0_0, .int .i64 a0_1, .bool a0_2] 23 (0, 0))); have kn2 := hNX _ _ _ _ _ kb (by assumption : _ = some (Obj.cells #[.int .i64 a1_0, .int .i64 a1_1, .int .u8 a1_2, .slice A1_3 l1_3.length c1_3] 26 (0, 0))); have kn3 := hNX _ _ _ _ _ kb (by assumption : _ = some (Obj.cells #[.int .i64 x365000_20, .int .i64 x365001_20, .int .i64 x365002_20] 29 (0, 0))); have kn4 := hNB _ _ _ kb (by assumption); obtain ⟨kc0, kc1, kc2, kf0, kf1, kf2⟩ := c3_ ⟨kb⟩)))
              | (go_at_call 62; go_split_ands; (with_reducible refine (salvorref16_side.calls k3 a0_0 a0_1 a0_2 _ _ l1_3 47 q3 u3 v3 y3 z3 _ (Kd.C_below HR1_3.out ?kc3) HC1_3.out AS.out).mono ?_); (case kc3 => (with_reducible repeat (first | assumption | refine blk_drew ?_ | refine blk_alloc ?_ _ | refine below_drew1 ?_ | refine below_alloc ?_ _))); rintro e w12 ⟨rfl, hb⟩; have kk := HKS w12 (by (with_reducible repeat (first | assumption | refine blk_drew ?_ | refine blk_alloc ?_ _ | refine blk_below ?_ hb | refine below_drew1 ?_ | refine below_alloc ?_ _ | refine below_step ?_ hb))) (by (with_reducible repeat (first | assumption | refine blk_drew ?_ | refine blk_alloc ?_ _ | refine blk_below ?_ hb | refine below_drew1 ?_ | refine below_alloc ?_ _ | refine below_step ?_ hb))) (by (with_reducible repeat (first | assumption | refine blk_drew ?_ | refine blk_alloc ?_ _ | refine blk_below ?_ hb | refine below_drew1 ?_ | refine below_alloc ?_ _ | refine below_step ?_ hb))) (by (with_reducible repeat (first | assumption | refine blk_drew ?_ | refine blk_alloc ?_ _ | refine blk_below ?_ hb | refine below_drew1 ?_ | refine below_alloc ?_ _ | refine below_step ?_ hb))); (try (have kb2 := blk_below kb hb; obtain ⟨kd0, kd1, kd2, ke0, ke1, ke2⟩ := c3_ ⟨kb2⟩)); (try ((first | have kb := blk_below (blk_new _ _) hb | have kb := blk_below (blk_drew (blk_new _ _)) hb); have kn1 := hNX _ _ _ _ _ kb (by assumption : _ = some (Obj.cells #[.int .i64 a0_0, .int .i64 a0_1, .bool a0_2] 23 (0, 0))); have kn2 := hNX _ _ _ _ _ kb (by assumption : _ = some (Obj.cells #[.int .i64 a1_0, .int .i64 a1_1, .int .u8 a1_2, .slice A1_3 l1_3.length c1_3] 26 (0, 0))); have kn3 := hNX _ _ _ _ _ kb (by assumption : _ = some (Obj.cells #[.int .i64 x365000_20, .int .i64 x365001_20, .int .i64 x365002_20] 29 (0, 0))); have kn4 := hNB _ _ _ kb (by assumption); obtain ⟨kc0, kc1, kc2, kf0, kf1, kf2⟩ := c3_ ⟨kb⟩))))
            all_goals go_split_ands
            all_goals
             try go_wp2
             go_meet
             exact ⟨_, rfl, rfl, ⟨by first | exact blk_new _ _ | exact blk_set (blk_set (blk_set kb2 0 _) 1 _) 2 _ | exact blk_set (blk_set (blk_set kb 0 _) 1 _) 2 _⟩, ⟨by assumption⟩, ⟨by assumption⟩, ⟨by assumption⟩, ⟨by assumption⟩⟩
           case rest =>
            clear BK362 BK363 BK364 HB
            obtain ⟨gb, rfl, rfl, BX, BK362, BK363, BK364, HB⟩ := hcut
            have H := HC.out
            clear HC AQ AS
            cases z3 with
            | true =>
             rw [if_pos rfl] at H
             obtain ⟨⟨t1, t2, t3⟩, A38, H⟩ := Option.bind_eq_some_iff.mp H
             simp only [Option.some.injEq, Prod.mk.injEq] at H
             obtain ⟨rfl, rfl, rfl, rfl⟩ := H
             have hA := Aside0.mk A38
             clear A38
             obtain ⟨i0, i1, i2, _, _, _⟩ := c3_ BK362
             obtain ⟨j0, j1, j2, _, _, _⟩ := c3_ BX
             go_wp2_with (first | (go_at_call 63; (with_reducible refine (salvorref16_part.calls a0_0 a0_1 a0_2 u3 v3 y3 1 3 t1 t2 t3 _ hA.out).mono ?_); rintro e w46 ⟨rfl, hb⟩; replace BK364 := bb_ BK364 hb; replace HB := bs_ HB hb; clear hb i0 i1 i2 j0 j1 j2; obtain ⟨i0, i1, i2, j0, j1, j2⟩ := c3_ BK364))
             refine bodyPost_ret (results_ct rfl _ _ gb364 29 #[.int .i64 t1, .int .i64 t2, .int .i64 t3] (0, 0) _ rfl (bp_ BK364) Try.underlying29 rfl (by kernel_rfl)) rfl ?_
             exact ⟨rfl, bh_ HB⟩
            | false =>
             rw [if_neg (by simp)] at H
             clear BX
             cases k3 with
             | zero => exact absurd H (by simp [salvorref16_next.j4])
             | succ k4 =>
              simp only [salvorref16_next.j4] at H
              obtain ⟨m0, m1, m2, m3, _, _, _, _⟩ := c4_ BK363
              obtain ⟨i0, i1, i2, _, _, _⟩ := c3_ BK362
              go_upto_if 76 with (fail)
              by_cases c4 : a1_1 ≥ a0_1
              · rw [if_pos c4] at H
                have cb : decide (a0_1 ≤ a1_1) = true := decide_eq_true c4
                rw [cb]
                clear i0 i1 i2
                simp only [Option.some.injEq, Prod.mk.injEq] at H
                obtain ⟨rfl, rfl, rfl, rfl⟩ := H
                obtain ⟨n0, n1, n2, g0, g1, g2⟩ := c3_ BK364
                go_wp2
                refine bodyPost_ret (results_ct rfl _ _ gb364 29 #[.int .i64 0, .int .i64 0, .int .i64 0] (0, 0) _ rfl (bp_ BK364) Try.underlying29 rfl (by kernel_rfl)) rfl ?_
                exact ⟨rfl, bh_ HB⟩
              · rw [if_neg c4] at H
                have cb : decide (a0_1 ≤ a1_1) = false := decide_eq_false c4
                rw [cb]
                cases k4 with
                | zero => exact absurd H (by simp [salvorref16_next.j5])
                | succ k5 =>
                 simp only [salvorref16_next.j5] at H
                 obtain ⟨⟨u5, v5, y5, z5⟩, hs5, H⟩ := Option.bind_eq_some_iff.mp H
                 have AS := Aside0.mk hs5
                 have HC := Aside0.mk H
                 clear H hs5 c4 cb
                 have hsd := cb_ HR1_3 HB
                 go_upto_region 15 with (first | (go_at_call 62; (with_reducible refine (salvorref16_side.calls k5 a0_0 a0_1 a0_2 _ _ l1_3 45 a1_0 u5 v5 y5 z5 _ hsd HC1_3.out AS.out).mono ?_); rintro e w136 ⟨rfl, hb⟩; replace BK362 := bb_ BK362 hb; replace BK363 := bb_ BK363 hb; replace BK364 := bb_ BK364 hb; replace HB := bs_ HB hb; clear hb) | ((with_reducible refine gate_dst (N := 12) rfl ?_); refine box_e 12 #[.int .i64 0, .int .i64 0, .int .u8 0] 33 ?_; intro gx hg w137 hbox hb; have BX := Aside0.mk hbox; have h1 := (bn_ BK362 hg).out; have h2 := (bn_ BK363 hg).out; have h3 := (bn_ BK364 hg).out; have h4 := (bg_ HB hg).out; have h5 := (bm_ BK362 hg).out; have h6 := (bm_ BK363 hg).out; have h7 := (bm_ BK364 hg).out; replace BK362 := bb_ BK362 hb; replace BK363 := bb_ BK363 hb; replace BK364 := bb_ BK364 hb; replace HB := bs_ HB hb; clear hb hbox hg; obtain ⟨q0, q1, q2, e0, e1, e2⟩ := c3_ BX))
                 obtain ⟨wz, hwz⟩ : ∃ wz, wz = (((w137.setCell ⟨gx, 0, none⟩ (.int .i64 u5)).setCell ⟨gx, 1, none⟩ (.int .i64 v5)).setCell ⟨gx, 2, none⟩ (.int .u8 y5)) := ⟨_, rfl⟩
                 replace BX : Aside0 (wz.heap[gx]? = some (.cells #[.int .i64 u5, .int .i64 v5, .int .u8 y5] 33 (0, 0))) := ⟨by rw [hwz]; exact blk_set (blk_set (blk_set BX.out 0 _) 1 _) 2 _⟩
                 replace BK362 : Aside0 (wz.heap[gb362]? = some (.cells #[.int .i64 a0_0, .int .i64 a0_1, .bool a0_2] 23 (0, 0))) := ⟨by rw [hwz]; exact blk_far (blk_far (blk_far BK362.out h1 _) h1 _) h1 _⟩
                 replace BK363 : Aside0 (wz.heap[gb363]? = some (.cells #[.int .i64 a1_0, .int .i64 a1_1, .int .u8 a1_2, .slice A1_3 l1_3.length c1_3] 26 (0, 0))) := ⟨by rw [hwz]; exact blk_far (blk_far (blk_far BK363.out h2 _) h2 _) h2 _⟩
                 replace BK364 : Aside0 (wz.heap[gb364]? = some (.cells #[.int .i64 x365000_20, .int .i64 x365001_20, .int .i64 x365002_20] 29 (0, 0))) := ⟨by rw [hwz]; exact blk_far (blk_far (blk_far BK364.out h3 _) h3 _) h3 _⟩
                 replace HB : Aside0 (Below w.heap.size w wz) := ⟨by rw [hwz]; exact below_set (below_set (below_set HB.out h4) h4) h4⟩
                 rw [← hwz]
                 clear hwz h1 h2 h3 h4 h5 h6 h7 q0 q1 q2 e0 e1 e2
                 have H := HC.out
                 clear HC AS
                 cases z5 with
                 | true =>
                   rw [if_pos rfl] at H
                   obtain ⟨⟨t1, t2, t3⟩, A38, H⟩ := Option.bind_eq_some_iff.mp H
                   simp only [Option.some.injEq, Prod.mk.injEq] at H
                   obtain ⟨rfl, rfl, rfl, rfl⟩ := H
                   have hA := Aside0.mk A38
                   clear A38
                   obtain ⟨i0, i1, i2, _, _, _⟩ := c3_ BK362
                   obtain ⟨j0, j1, j2, _, _, _⟩ := c3_ BX
                   go_wp2_with (first | (go_at_call 63; (with_reducible refine (salvorref16_part.calls a0_0 a0_1 a0_2 u5 v5 y5 1 4 t1 t2 t3 _ hA.out).mono ?_); rintro e w46 ⟨rfl, hb⟩; replace BK364 := bb_ BK364 hb; replace HB := bs_ HB hb; clear hb i0 i1 i2 j0 j1 j2; obtain ⟨i0, i1, i2, j0, j1, j2⟩ := c3_ BK364))
                   refine bodyPost_ret (results_ct rfl _ _ gb364 29 #[.int .i64 t1, .int .i64 t2, .int .i64 t3] (0, 0) _ rfl (bp_ BK364) Try.underlying29 rfl (by kernel_rfl)) rfl ?_
                   exact ⟨rfl, bh_ HB⟩
                 | false =>
                  rw [if_neg (by simp)] at H
                  clear BX
                  cases k5 with
                  | zero => exact absurd H (by simp [salvorref16_next.j6])
                  | succ k6 =>
                   simp only [salvorref16_next.j6] at H
                   obtain ⟨q6, hq6, H⟩ := Option.bind_eq_some_iff.mp H
                   obtain ⟨⟨u6, v6, y6, z6⟩, hs6, H⟩ := Option.bind_eq_some_iff.mp H
                   have AQ := Aside0.mk hq6
                   have AS := Aside0.mk hs6
                   have HC := Aside0.mk H
                   clear H hq6 hs6
                   go_upto_region 18 with (fail)
                   go_cut [14, 15] (fun va vb wc => ∃ gb : Nat, va = .pointer (some ⟨gb, 0, none⟩) ∧ vb = .bool z6 ∧ Aside0 (wc.heap[gb]? = some (.cells #[.int .i64 u6, .int .i64 v6, .int .u8 y6] 33 (0, 0))) ∧ Aside0 (wc.heap[gb362]? = some (.cells #[.int .i64 a0_0, .int .i64 a0_1, .bool a0_2] 23 (0, 0))) ∧ Aside0 (wc.heap[gb363]? = some (.cells #[.int .i64 a1_0, .int .i64 a1_1, .int .u8 a1_2, .slice A1_3 l1_3.length c1_3] 26 (0, 0))) ∧ Aside0 (wc.heap[gb364]? = some (.cells #[.int .i64 x365000_20, .int .i64 x365001_20, .int .i64 x365002_20] 29 (0, 0))) ∧ Aside0 (Below w.heap.size w wc))
                   case first =>
                    have b0 := HB.out
                    have b1 := BK362.out
                    have b2 := BK363.out
                    have b3 := BK364.out
                    have HKS : ∀ w' : World, Below w.heap.size w w' → w'.heap[gb362]? = some (.cells #[.int .i64 a0_0, .int .i64 a0_1, .bool a0_2] 23 (0, 0)) → w'.heap[gb363]? = some (.cells #[.int .i64 a1_0, .int .i64 a1_1, .int .u8 a1_2, .slice A1_3 l1_3.length c1_3] 26 (0, 0)) → w'.heap[gb364]? = some (.cells #[.int .i64 x365000_20, .int .i64 x365001_20, .int .i64 x365002_20] 29 (0, 0)) → (w'.cell? ⟨gb362, 0, none⟩ = some (.int .i64 a0_0) ∧ w'.cell? ⟨gb362, 1, none⟩ = some (.int .i64 a0_1) ∧ w'.cell? ⟨gb362, 2, none⟩ = some (.bool a0_2) ∧ w'.cell? ⟨gb363, 3, none⟩ = some (.slice A1_3 l1_3.length c1_3) ∧ Below w.heap.size w w' ∧ w'.heap[gb362]? = some (.cells #[.int .i64 a0_0, .int .i64 a0_1, .bool a0_2] 23 (0, 0)) ∧ w'.heap[gb363]? = some (.cells #[.int .i64 a1_0, .int .i64 a1_1, .int .u8 a1_2, .slice A1_3 l1_3.length c1_3] 26 (0, 0)) ∧ w'.heap[gb364]? = some (.cells #[.int .i64 x365000_20, .int .i64 x365001_20, .int .i64 x365002_20] 29 (0, 0))) := fun W h0 h1 h2 h3 => ⟨(blk_cell h1 0).trans rfl, (blk_cell h1 1).trans rfl, (blk_cell h1 2).trans rfl, (blk_cell h2 3).trans rfl, h0, h1, h2, h3⟩
                    have hNX : ∀ (X W' : World) (o : Obj) (g : Nat) (o1 : Obj), W'.heap[X.heap.size]? = some o → X.heap[g]? = some o1 → g ≠ X.heap.size := fun X W' o g o1 _ h => Nat.ne_of_lt (blk_lt h)
                    have hNB : ∀ (X W' : World) (o : Obj), W'.heap[X.heap.size]? = some o → Below w.heap.size w X → w.heap.size ≤ X.heap.size := fun X W' o _ h => below_size h
                    try go_wp2
                    go_region_held3 (fun w' => w'.cell? ⟨gb362, 0, none⟩ = some (.int .i64 a0_0) ∧ w'.cell? ⟨gb362, 1, none⟩ = some (.int .i64 a0_1) ∧ w'.cell? ⟨gb362, 2, none⟩ = some (.bool a0_2) ∧ w'.cell? ⟨gb363, 3, none⟩ = some (.slice A1_3 l1_3.length c1_3) ∧ Below w.heap.size w w' ∧ w'.heap[gb362]? = some (.cells #[.int .i64 a0_0, .int .i64 a0_1, .bool a0_2] 23 (0, 0)) ∧ w'.heap[gb363]? = some (.cells #[.int .i64 a1_0, .int .i64 a1_1, .int .u8 a1_2, .slice A1_3 l1_3.length c1_3] 26 (0, 0)) ∧ w'.heap[gb364]? = some (.cells #[.int .i64 x365000_20, .int .i64 x365001_20, .int .i64 x365002_20] 29 (0, 0)))
                     ((go_split_ands; (with_reducible refine HKS _ ?_ ?_ ?_ ?_) <;> (with_reducible repeat (first | assumption | refine blk_drew ?_ | refine blk_alloc ?_ _ | refine blk_below ?_ hb | refine below_drew1 ?_ | refine below_alloc ?_ _ | refine below_step ?_ hb | refine blk_far ?_ (by assumption) _ | refine below_set ?_ (by assumption)))))
                     (first
                      | (go_at_call 52; go_split_ands; (with_reducible refine (salvorref16_begin.calls k6 a0_0 a0_1 a0_2 _ _ l1_3 q6 _ (Kd.C_below HR1_3.out ?ka6) HC1_3.out AQ.out).mono ?_); (case ka6 => (with_reducible repeat (first | assumption | refine blk_drew ?_ | refine blk_alloc ?_ _ | refine below_drew1 ?_ | refine below_alloc ?_ _))); rintro e w11 ⟨rfl, hb⟩; have kk := HKS w11 (by (with_reducible repeat (first | assumption | refine blk_drew ?_ | refine blk_alloc ?_ _ | refine blk_below ?_ hb | refine below_drew1 ?_ | refine below_alloc ?_ _ | refine below_step ?_ hb))) (by (with_reducible repeat (first | assumption | refine blk_drew ?_ | refine blk_alloc ?_ _ | refine blk_below ?_ hb | refine below_drew1 ?_ | refine below_alloc ?_ _ | refine below_step ?_ hb))) (by (with_reducible repeat (first | assumption | refine blk_drew ?_ | refine blk_alloc ?_ _ | refine blk_below ?_ hb | refine below_drew1 ?_ | refine below_alloc ?_ _ | refine below_step ?_ hb))) (by (with_reducible repeat (first | assumption | refine blk_drew ?_ | refine blk_alloc ?_ _ | refine blk_below ?_ hb | refine below_drew1 ?_ | refine below_alloc ?_ _ | refine below_step ?_ hb))); (try ((first | have kb := blk_below (blk_new _ _) hb | have kb := blk_below (blk_drew (blk_new _ _)) hb); have kn1 := hNX _ _ _ _ _ kb (by assumption : _ = some (Obj.cells #[.int .i64 a0_0, .int .i64 a0_1, .bool a0_2] 23 (0, 0))); have kn2 := hNX _ _ _ _ _ kb (by assumption : _ = some (Obj.cells #[.int .i64 a1_0, .int .i64 a1_1, .int .u8 a1_2, .slice A1_3 l1_3.length c1_3] 26 (0, 0))); have kn3 := hNX _ _ _ _ _ kb (by assumption : _ = some (Obj.cells #[.int .i64 x365000_20, .int .i64 x365001_20, .int .i64 x365002_20] 29 (0, 0))); have kn4 := hNB _ _ _ kb (by assumption); obtain ⟨kc0, kc1, kc2, kf0, kf1, kf2⟩ := c3_ ⟨kb⟩)))
                      | (go_at_call 62; go_split_ands; (with_reducible refine (salvorref16_side.calls k6 a0_0 a0_1 a0_2 _ _ l1_3 45 q6 u6 v6 y6 z6 _ (Kd.C_below HR1_3.out ?kc6) HC1_3.out AS.out).mono ?_); (case kc6 => (with_reducible repeat (first | assumption | refine blk_drew ?_ | refine blk_alloc ?_ _ | refine below_drew1 ?_ | refine below_alloc ?_ _))); rintro e w12 ⟨rfl, hb⟩; have kk := HKS w12 (by (with_reducible repeat (first | assumption | refine blk_drew ?_ | refine blk_alloc ?_ _ | refine blk_below ?_ hb | refine below_drew1 ?_ | refine below_alloc ?_ _ | refine below_step ?_ hb))) (by (with_reducible repeat (first | assumption | refine blk_drew ?_ | refine blk_alloc ?_ _ | refine blk_below ?_ hb | refine below_drew1 ?_ | refine below_alloc ?_ _ | refine below_step ?_ hb))) (by (with_reducible repeat (first | assumption | refine blk_drew ?_ | refine blk_alloc ?_ _ | refine blk_below ?_ hb | refine below_drew1 ?_ | refine below_alloc ?_ _ | refine below_step ?_ hb))) (by (with_reducible repeat (first | assumption | refine blk_drew ?_ | refine blk_alloc ?_ _ | refine blk_below ?_ hb | refine below_drew1 ?_ | refine below_alloc ?_ _ | refine below_step ?_ hb))); (try (have kb2 := blk_below kb hb; obtain ⟨kd0, kd1, kd2, ke0, ke1, ke2⟩ := c3_ ⟨kb2⟩)); (try ((first | have kb := blk_below (blk_new _ _) hb | have kb := blk_below (blk_drew (blk_new _ _)) hb); have kn1 := hNX _ _ _ _ _ kb (by assumption : _ = some (Obj.cells #[.int .i64 a0_0, .int .i64 a0_1, .bool a0_2] 23 (0, 0))); have kn2 := hNX _ _ _ _ _ kb (by assumption : _ = some (Obj.cells #[.int .i64 a1_0, .int .i64 a1_1, .int .u8 a1_2, .slice A1_3 l1_3.length c1_3] 26 (0, 0))); have kn3 := hNX _ _ _ _ _ kb (by assumption : _ = some (Obj.cells #[.int .i64 x365000_20, .int .i64 x365001_20, .int .i64 x365002_20] 29 (0, 0))); have kn4 := hNB _ _ _ kb (by assumption); obtain ⟨kc0, kc1, kc2, kf0, kf1, kf2⟩ := c3_ ⟨kb⟩))))
                    all_goals go_split_ands
                    all_goals
                     try go_wp2
                     go_meet
                     exact ⟨_, rfl, rfl, ⟨by first | exact blk_new _ _ | exact blk_set (blk_set (blk_set kb2 0 _) 1 _) 2 _ | exact blk_set (blk_set (blk_set kb 0 _) 1 _) 2 _⟩, ⟨by assumption⟩, ⟨by assumption⟩, ⟨by assumption⟩, ⟨by assumption⟩⟩
                   case rest =>
                    clear BK362 BK363 BK364 HB
                    obtain ⟨gb, rfl, rfl, BX, BK362, BK363, BK364, HB⟩ := hcut
                    have H := HC.out
                    clear HC AQ AS
                    cases z6 with
                    | true =>
                     rw [if_pos rfl] at H
                     cases k6 with
                     | zero => exact absurd H (by simp [salvorref16_next.j7])
                     | succ k7 =>
                      simp only [salvorref16_next.j7] at H
                      obtain ⟨m0, m1, m2, m3, _, _, _, _⟩ := c4_ BK363
                      obtain ⟨i0, i1, i2, _, _, _⟩ := c3_ BK362
                      go_upto_if 110 with (fail)
                      by_cases c7 : wrap64 (a1_1 + 1) < a0_1
                      · have cb : decide (wrap64 (a1_1 + 1) < a0_1) = true := decide_eq_true c7
                        rw [if_pos cb] at H
                        clear c7
                        (first | rw [cb] | (simp only [i64_w]; rw [cb]))
                        clear i0 i1 i2
                        obtain ⟨⟨t1, t2, t3⟩, A38, H⟩ := Option.bind_eq_some_iff.mp H
                        simp only [Option.some.injEq, Prod.mk.injEq] at H
                        obtain ⟨rfl, rfl, rfl, rfl⟩ := H
                        have hA := Aside0.mk A38
                        clear A38
                        obtain ⟨i0, i1, i2, _, _, _⟩ := c3_ BK362
                        obtain ⟨j0, j1, j2, _, _, _⟩ := c3_ BX
                        go_wp2_with (first | (go_at_call 63; (with_reducible refine (salvorref16_part.calls a0_0 a0_1 a0_2 u6 v6 y6 1 4 t1 t2 t3 _ hA.out).mono ?_); rintro e w46 ⟨rfl, hb⟩; replace BK364 := bb_ BK364 hb; replace HB := bs_ HB hb; clear hb i0 i1 i2 j0 j1 j2; obtain ⟨i0, i1, i2, j0, j1, j2⟩ := c3_ BK364))
                        refine bodyPost_ret (results_ct rfl _ _ gb364 29 #[.int .i64 t1, .int .i64 t2, .int .i64 t3] (0, 0) _ rfl (bp_ BK364) Try.underlying29 rfl (by kernel_rfl)) rfl ?_
                        exact ⟨rfl, bh_ HB⟩
                      · have cb : decide (wrap64 (a1_1 + 1) < a0_1) = false := decide_eq_false c7
                        rw [if_neg (by rw [cb]; simp)] at H
                        clear c7
                        (first | rw [cb] | (simp only [i64_w]; rw [cb]))
                        clear i0 i1 i2
                        simp only [Option.some.injEq, Prod.mk.injEq] at H
                        obtain ⟨rfl, rfl, rfl, rfl⟩ := H
                        obtain ⟨n0, n1, n2, g0, g1, g2⟩ := c3_ BK364
                        go_wp2
                        refine bodyPost_ret (results_ct rfl _ _ gb364 29 #[.int .i64 0, .int .i64 0, .int .i64 0] (0, 0) _ rfl (bp_ BK364) Try.underlying29 rfl (by kernel_rfl)) rfl ?_
                        exact ⟨rfl, bh_ HB⟩
                    | false =>
                     rw [if_neg (by simp)] at H
                     cases k6 with
                     | zero => exact absurd H (by simp [salvorref16_next.j7])
                     | succ k7 =>
                      simp only [salvorref16_next.j7] at H
                      rw [if_neg (by simp)] at H
                      obtain ⟨m0, m1, m2, m3, _, _, _, _⟩ := c4_ BK363
                      obtain ⟨i0, i1, i2, _, _, _⟩ := c3_ BK362
                      go_upto_if 110 with (fail)
                      clear i0 i1 i2
                      simp only [Option.some.injEq, Prod.mk.injEq] at H
                      obtain ⟨rfl, rfl, rfl, rfl⟩ := H
                      obtain ⟨n0, n1, n2, g0, g1, g2⟩ := c3_ BK364
                      go_wp2
                      refine bodyPost_ret (results_ct rfl _ _ gb364 29 #[.int .i64 0, .int .i64 0, .int .i64 0] (0, 0) _ rfl (bp_ BK364) Try.underlying29 rfl (by kernel_rfl)) rfl ?_
                      exact ⟨rfl, bh_ HB⟩
end Go.Proofs.Ytnoilinjlelpaaa.P
