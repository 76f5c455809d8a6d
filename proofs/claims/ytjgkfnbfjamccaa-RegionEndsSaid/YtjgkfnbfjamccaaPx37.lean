/- Laid by a program of this session's own (wip/wprint.py, over the kit's print.py): functions of the given program as plain Lean functions, and that the program's calls come to their answers. -/
import Derived.Test.YtjgkfnbfjamccaaPx0
import Derived.Test.YtjgkfnbfjamccaaPx9
import Derived.Test.YtjgkfnbfjamccaaPx11
import Derived.Test.YtjgkfnbfjamccaaPx16
import Derived.Test.YtjgkfnbfjamccaaPx29
import Derived.Test.YtjgkfnbfjamccaaPx30
import Derived.Test.YtjgkfnbfjamccaaPx32
namespace Go.Proofs.Ytjgkfnbfjamccaa.P
open Go.RowKit Go.Proofs.YtjgkfnbfjamccaaW.PrintWords Go.Proofs.YtjgkfnbfjamccaaW.PrintLast Go.Proofs.YtjgkfnbfjamccaaW.PrintMore
attribute [local go_sem] max2_int min2_int max_two min_two max_three min_three max_four min_four   -- for this text's walks alone
set_option linter.unusedVariables false
set_option linter.unusedSimpArgs false

/-! ### salvorlaw16_RegionEnds: function 9 -/
mutual
def salvorlaw16_RegionEnds.l0 : Nat → Int → Int → List (S26) → Int → Bool → Bool → Int → Int → Int → Int → Int → Int → Int → Option (Bool)
  | 0, _, _, _, _, _, _, _, _, _, _, _, _, _ => none
  | k + 1, x0, x2, x9, x10, x12, x14, x15, x372000, x372001, x372002, x377000, x377001, x377002 => if x15 < (wrap64 (x0)) then ((region_At.f k x9 x15).bind fun bt381 => (if x15 ≥ (wrap64 (x2)) then (if bt381.2.2.1 = x10 then (if x12 = true then (if x15 < x372000 then (salvorlaw16_RegionEnds.j1 k x0 x2 x9 x10 x12 x14 x15 (bt381.2.2.1 == x10) true x372000 x372001 x372002 x377000 x377001 x377002) else (if x15 < (wrap64 (x2)) then (if x14 = true then (salvorlaw16_RegionEnds.j1 k x0 x2 x9 x10 x12 x14 x15 (bt381.2.2.1 == x10) (decide (x15 ≥ (wrap64 (x377000 + x377001)))) x372000 x372001 x372002 x377000 x377001 x377002) else (salvorlaw16_RegionEnds.j1 k x0 x2 x9 x10 x12 x14 x15 (bt381.2.2.1 == x10) true x372000 x372001 x372002 x377000 x377001 x377002)) else (salvorlaw16_RegionEnds.j1 k x0 x2 x9 x10 x12 x14 x15 (bt381.2.2.1 == x10) false x372000 x372001 x372002 x377000 x377001 x377002))) else (salvorlaw16_RegionEnds.j1 k x0 x2 x9 x10 x12 x14 x15 (bt381.2.2.1 == x10) true x372000 x372001 x372002 x377000 x377001 x377002)) else (if x15 < (wrap64 (x2)) then (salvorlaw16_RegionEnds.j1 k x0 x2 x9 x10 x12 x14 x15 (bt381.2.2.1 == x10) false x372000 x372001 x372002 x377000 x377001 x377002) else (salvorlaw16_RegionEnds.j1 k x0 x2 x9 x10 x12 x14 x15 (bt381.2.2.1 == x10) false x372000 x372001 x372002 x377000 x377001 x377002))) else (if x15 < (wrap64 (x2)) then (if bt381.2.2.1 = x10 then (if x14 = true then (salvorlaw16_RegionEnds.j1 k x0 x2 x9 x10 x12 x14 x15 (bt381.2.2.1 == x10) (decide (x15 ≥ (wrap64 (x377000 + x377001)))) x372000 x372001 x372002 x377000 x377001 x377002) else (salvorlaw16_RegionEnds.j1 k x0 x2 x9 x10 x12 x14 x15 (bt381.2.2.1 == x10) true x372000 x372001 x372002 x377000 x377001 x377002)) else (salvorlaw16_RegionEnds.j1 k x0 x2 x9 x10 x12 x14 x15 (bt381.2.2.1 == x10) false x372000 x372001 x372002 x377000 x377001 x377002)) else (salvorlaw16_RegionEnds.j1 k x0 x2 x9 x10 x12 x14 x15 (bt381.2.2.1 == x10) false x372000 x372001 x372002 x377000 x377001 x377002)))) else (if x12 = true then (if x372000 ≥ (wrap64 (x2)) then (if x372001 > 0 then (if x372002 = x10 then (if x14 = true then (if (wrap64 (x377000 + x377001)) ≤ (wrap64 (x2)) then (if x377001 > 0 then (if x377002 = x10 then ((salvorlaw16_RegionRuns.f k).bind fun t377 => (some t377)) else (some false)) else (some false)) else (some false)) else ((salvorlaw16_RegionRuns.f k).bind fun t378 => (some t378))) else (some false)) else (some false)) else (some false)) else (if x14 = true then (if (wrap64 (x377000 + x377001)) ≤ (wrap64 (x2)) then (if x377001 > 0 then (if x377002 = x10 then ((salvorlaw16_RegionRuns.f k).bind fun t379 => (some t379)) else (some false)) else (some false)) else (some false)) else ((salvorlaw16_RegionRuns.f k).bind fun t380 => (some t380))))
def salvorlaw16_RegionEnds.j1 : Nat → Int → Int → List (S26) → Int → Bool → Bool → Int → Bool → Bool → Int → Int → Int → Int → Int → Int → Option (Bool)
  | 0, _, _, _, _, _, _, _, _, _, _, _, _, _, _, _ => none
  | k + 1, x0, x2, x9, x10, x12, x14, x15, x18, x99, x372000, x372001, x372002, x377000, x377001, x377002 => if x99 = true then (some false) else (if x12 = true then (if x15 ≥ x372000 then (if x15 < (wrap64 (x372000 + x372001)) then (if x18 = true then (if x14 = true then (if x15 ≥ x377000 then (if x15 < (wrap64 (x377000 + x377001)) then (salvorlaw16_RegionEnds.l0 k x0 x2 x9 x10 x12 x14 (wrap64 (x15 + 1)) x372000 x372001 x372002 x377000 x377001 x377002) else (salvorlaw16_RegionEnds.l0 k x0 x2 x9 x10 x12 x14 (wrap64 (x15 + 1)) x372000 x372001 x372002 x377000 x377001 x377002)) else (salvorlaw16_RegionEnds.l0 k x0 x2 x9 x10 x12 x14 (wrap64 (x15 + 1)) x372000 x372001 x372002 x377000 x377001 x377002)) else (salvorlaw16_RegionEnds.l0 k x0 x2 x9 x10 x12 x14 (wrap64 (x15 + 1)) x372000 x372001 x372002 x377000 x377001 x377002)) else (some false)) else (if x14 = true then (if x15 ≥ x377000 then (if x15 < (wrap64 (x377000 + x377001)) then (if x18 = true then (salvorlaw16_RegionEnds.l0 k x0 x2 x9 x10 x12 x14 (wrap64 (x15 + 1)) x372000 x372001 x372002 x377000 x377001 x377002) else (some false)) else (salvorlaw16_RegionEnds.l0 k x0 x2 x9 x10 x12 x14 (wrap64 (x15 + 1)) x372000 x372001 x372002 x377000 x377001 x377002)) else (salvorlaw16_RegionEnds.l0 k x0 x2 x9 x10 x12 x14 (wrap64 (x15 + 1)) x372000 x372001 x372002 x377000 x377001 x377002)) else (salvorlaw16_RegionEnds.l0 k x0 x2 x9 x10 x12 x14 (wrap64 (x15 + 1)) x372000 x372001 x372002 x377000 x377001 x377002))) else (if x14 = true then (if x15 ≥ x377000 then (if x15 < (wrap64 (x377000 + x377001)) then (if x18 = true then (salvorlaw16_RegionEnds.l0 k x0 x2 x9 x10 x12 x14 (wrap64 (x15 + 1)) x372000 x372001 x372002 x377000 x377001 x377002) else (some false)) else (salvorlaw16_RegionEnds.l0 k x0 x2 x9 x10 x12 x14 (wrap64 (x15 + 1)) x372000 x372001 x372002 x377000 x377001 x377002)) else (salvorlaw16_RegionEnds.l0 k x0 x2 x9 x10 x12 x14 (wrap64 (x15 + 1)) x372000 x372001 x372002 x377000 x377001 x377002)) else (salvorlaw16_RegionEnds.l0 k x0 x2 x9 x10 x12 x14 (wrap64 (x15 + 1)) x372000 x372001 x372002 x377000 x377001 x377002))) else (if x14 = true then (if x15 ≥ x377000 then (if x15 < (wrap64 (x377000 + x377001)) then (if x18 = true then (salvorlaw16_RegionEnds.l0 k x0 x2 x9 x10 x12 x14 (wrap64 (x15 + 1)) x372000 x372001 x372002 x377000 x377001 x377002) else (some false)) else (salvorlaw16_RegionEnds.l0 k x0 x2 x9 x10 x12 x14 (wrap64 (x15 + 1)) x372000 x372001 x372002 x377000 x377001 x377002)) else (salvorlaw16_RegionEnds.l0 k x0 x2 x9 x10 x12 x14 (wrap64 (x15 + 1)) x372000 x372001 x372002 x377000 x377001 x377002)) else (salvorlaw16_RegionEnds.l0 k x0 x2 x9 x10 x12 x14 (wrap64 (x15 + 1)) x372000 x372001 x372002 x377000 x377001 x377002)))
end
def salvorlaw16_RegionEnds.f (k : Nat) (a0 : Int) (l1 : List (S40)) (a2 : Int) (a3 : Int) : Option (Bool) := if (l1.length : Int) > 30 then ((salvorlaw16_RegionRuns.f k).bind fun t362 => (some t362)) else ((salvorlaw16_Made.f k a0 l1).bind fun t363 => ((salvorlaw16_Cut_of.f 0 0 a3).bind fun t366 => ((region_First.f k t363 t366 (wrap64 (a2))).bind fun bt367 => ((region_Last.f k t363 t366 (wrap64 (a2))).bind fun bt372 => (salvorlaw16_RegionEnds.l0 k a0 a2 t363 t366 bt367.2.2.2 bt372.2.2.2 0 bt367.1 bt367.2.1 bt367.2.2.1 bt372.1 bt372.2.1 bt372.2.2.1)))))
theorem salvorlaw16_RegionEnds.mono_l : ∀ k, (∀ y0 y1 y2 y3 y4 y5 y6 y7 y8 y9 y10 y11 y12, LeO (salvorlaw16_RegionEnds.l0 k y0 y1 y2 y3 y4 y5 y6 y7 y8 y9 y10 y11 y12) (salvorlaw16_RegionEnds.l0 (k + 1) y0 y1 y2 y3 y4 y5 y6 y7 y8 y9 y10 y11 y12)) ∧ (∀ y0 y1 y2 y3 y4 y5 y6 y7 y8 y9 y10 y11 y12 y13 y14, LeO (salvorlaw16_RegionEnds.j1 k y0 y1 y2 y3 y4 y5 y6 y7 y8 y9 y10 y11 y12 y13 y14) (salvorlaw16_RegionEnds.j1 (k + 1) y0 y1 y2 y3 y4 y5 y6 y7 y8 y9 y10 y11 y12 y13 y14))
  | 0 => ⟨fun _ _ _ _ _ _ _ _ _ _ _ _ _ r h => by simp [salvorlaw16_RegionEnds.l0] at h, fun _ _ _ _ _ _ _ _ _ _ _ _ _ _ _ r h => by simp [salvorlaw16_RegionEnds.j1] at h⟩
  | k + 1 => by
    obtain ⟨ih0, ih1⟩ := salvorlaw16_RegionEnds.mono_l k
    refine ⟨?_, ?_⟩
    · intro y0 y1 y2 y3 y4 y5 y6 y7 y8 y9 y10 y11 y12
      unfold salvorlaw16_RegionEnds.l0
      repeat' first
      | (with_reducible exact ih0 _ _ _ _ _ _ _ _ _ _ _ _ _)
      | (with_reducible exact ih1 _ _ _ _ _ _ _ _ _ _ _ _ _ _ _)
      | (with_reducible exact region_At.mono _ _ _)
      | (with_reducible exact region_First.mono _ _ _ _)
      | (with_reducible exact region_Last.mono _ _ _ _)
      | (with_reducible exact salvorlaw16_Made.mono _ _ _)
      | (with_reducible exact salvorlaw16_RegionRuns.mono _)
      | (with_reducible exact LeO.refl _)
      | (with_reducible exact LeO.none _)
      | (with_reducible refine LeO.ite ?_ ?_)
      | (with_reducible refine LeO.bind ?_ (fun _ => ?_))
      | exact ih0 _ _ _ _ _ _ _ _ _ _ _ _ _
      | exact ih1 _ _ _ _ _ _ _ _ _ _ _ _ _ _ _
      | exact region_At.mono _ _ _
      | exact region_First.mono _ _ _ _
      | exact region_Last.mono _ _ _ _
      | exact salvorlaw16_Made.mono _ _ _
      | exact salvorlaw16_RegionRuns.mono _
      | exact LeO.none _
      | refine LeO.ite ?_ ?_
      | refine LeO.bind ?_ (fun _ => ?_)
    · intro y0 y1 y2 y3 y4 y5 y6 y7 y8 y9 y10 y11 y12 y13 y14
      unfold salvorlaw16_RegionEnds.j1
      repeat' first
      | (with_reducible exact ih0 _ _ _ _ _ _ _ _ _ _ _ _ _)
      | (with_reducible exact ih1 _ _ _ _ _ _ _ _ _ _ _ _ _ _ _)
      | (with_reducible exact region_At.mono _ _ _)
      | (with_reducible exact region_First.mono _ _ _ _)
      | (with_reducible exact region_Last.mono _ _ _ _)
      | (with_reducible exact salvorlaw16_Made.mono _ _ _)
      | (with_reducible exact salvorlaw16_RegionRuns.mono _)
      | (with_reducible exact LeO.refl _)
      | (with_reducible exact LeO.none _)
      | (with_reducible refine LeO.ite ?_ ?_)
      | (with_reducible refine LeO.bind ?_ (fun _ => ?_))
      | exact ih0 _ _ _ _ _ _ _ _ _ _ _ _ _
      | exact ih1 _ _ _ _ _ _ _ _ _ _ _ _ _ _ _
      | exact region_At.mono _ _ _
      | exact region_First.mono _ _ _ _
      | exact region_Last.mono _ _ _ _
      | exact salvorlaw16_Made.mono _ _ _
      | exact salvorlaw16_RegionRuns.mono _
      | exact LeO.none _
      | refine LeO.ite ?_ ?_
      | refine LeO.bind ?_ (fun _ => ?_)
theorem salvorlaw16_RegionEnds.mono : ∀ a0 a1 a2 a3 k, LeO (salvorlaw16_RegionEnds.f k a0 a1 a2 a3) (salvorlaw16_RegionEnds.f (k + 1) a0 a1 a2 a3) := by
  intro a0 a1 a2 a3 k
  obtain ⟨ih0, ih1⟩ := salvorlaw16_RegionEnds.mono_l k
  unfold salvorlaw16_RegionEnds.f
  repeat' first
      | (with_reducible exact ih0 _ _ _ _ _ _ _ _ _ _ _ _ _)
      | (with_reducible exact ih1 _ _ _ _ _ _ _ _ _ _ _ _ _ _ _)
      | (with_reducible exact region_At.mono _ _ _)
      | (with_reducible exact region_First.mono _ _ _ _)
      | (with_reducible exact region_Last.mono _ _ _ _)
      | (with_reducible exact salvorlaw16_Made.mono _ _ _)
      | (with_reducible exact salvorlaw16_RegionRuns.mono _)
      | (with_reducible exact LeO.refl _)
      | (with_reducible exact LeO.none _)
      | (with_reducible refine LeO.ite ?_ ?_)
      | (with_reducible refine LeO.bind ?_ (fun _ => ?_))
      | exact ih0 _ _ _ _ _ _ _ _ _ _ _ _ _
      | exact ih1 _ _ _ _ _ _ _ _ _ _ _ _ _ _ _
      | exact region_At.mono _ _ _
      | exact region_First.mono _ _ _ _
      | exact region_Last.mono _ _ _ _
      | exact salvorlaw16_Made.mono _ _ _
      | exact salvorlaw16_RegionRuns.mono _
      | exact LeO.none _
      | refine LeO.ite ?_ ?_
      | refine LeO.bind ?_ (fun _ => ?_)
set_option maxHeartbeats 8000000 in
set_option maxRecDepth 100000 in
theorem salvorlaw16_RegionEnds.calls (k : Nat) (a0 : Int) (A1 : Option Addr) (c1 : Nat) (l1 : List (S40)) (a2 : Int) (a3 : Int) (r : Bool) (w : World) (hr1 : Kd.C k40 w A1 l1.length l1) (hc1 : l1.length ≤ c1) (h : salvorlaw16_RegionEnds.f k a0 l1 a2 a3 = some r) (hrt : r = true) :
    Calls Try.prog 9 #[.int .u8 a0, .slice A1 l1.length c1, .int .u8 a2, .int .u8 a3] w fun e w' => e = .returned (.bool r) ∧ Below w.heap.size w w' := by
  have HT := Aside0.mk hrt
  clear hrt
  have hu40 := Try.underlying40
  have hu26 := Try.underlying26
  have HR1 := Aside0.mk hr1
  have HC1 := Aside0.mk hc1
  clear hr1 hc1
  have HB := Aside0.mk (Below.refl w.heap.size w)
  have H : (if (l1.length : Int) > 30 then ((salvorlaw16_RegionRuns.f k).bind fun t362 => (some t362)) else ((salvorlaw16_Made.f k a0 l1).bind fun t363 => ((salvorlaw16_Cut_of.f 0 0 a3).bind fun t366 => ((region_First.f k t363 t366 (wrap64 (a2))).bind fun bt367 => ((region_Last.f k t363 t366 (wrap64 (a2))).bind fun bt372 => (salvorlaw16_RegionEnds.l0 k a0 a2 t363 t366 bt367.2.2.2 bt372.2.2.2 0 bt367.1 bt367.2.1 bt367.2.2.1 bt372.1 bt372.2.1 bt372.2.2.1)))))) = some r := h
  clear h
  by_cases c5 : (l1.length : Int) > 30
  · rw [if_pos c5] at H
    have c5b0 : decide (30 < (l1.length : Int)) = true := decide_eq_true c5
    have c5b1 : decide (30 < l1.length) = true := decide_eq_true (by omega)
    clear c5
    replace H := Option.bind_eq_some_iff.mp H
    obtain ⟨t362, A60, H⟩ := H
    replace H : (some t362) = some r := H
    have A6 := Aside0.mk A60
    clear A60
    obtain rfl := Option.some.inj H
    go_enter Try.func9, Try.ntmps9
    go_wp2_with (first | ((with_reducible refine gate_callee (f := 3) rfl ?_); refine goesL_ (some 22) rfl rfl Try.func3 (by kernel_rfl) rfl #[] rfl (by (try simp only [List.map_toArray, List.map_cons, List.map_nil]); first | done | rfl | (simp only [List.length_drop, List.length_take]; rfl)) ?_; (with_reducible refine (salvorlaw16_RegionRuns.calls k  t362 _ A6.out).mono ?_); rintro e w7 ⟨rfl, hb⟩; refine ⟨_, rfl, ?_⟩; have n0_ := Aside0.mk (below_step (by repeat (first | (with_reducible first | exact HB.out | apply below_alloc | apply pw_below_drewN | apply below_drew1) | exact HB.out)) hb); clear HB; have HB := n0_; clear n0_; (try clear hb); (try clear hb2); (try clear hk); (try clear hi)))
    go_ret
    exact ⟨by first | rfl | (simp [errW_none, errW_some] <;> rfl) | (simp [*, errW_none, errW_some] <;> rfl), by repeat (first | (with_reducible first | exact HB.out | apply below_alloc | apply pw_below_drewN | apply below_drew1) | exact HB.out)⟩
  · rw [if_neg c5] at H
    have c5b0 : decide (30 < (l1.length : Int)) = false := decide_eq_false c5
    have c5b1 : decide (30 < l1.length) = false := decide_eq_false (by omega)
    clear c5
    replace H := Option.bind_eq_some_iff.mp H
    obtain ⟨t363, A80, H⟩ := H
    replace H : ((salvorlaw16_Cut_of.f 0 0 a3).bind fun t366 => ((region_First.f k t363 t366 (wrap64 (a2))).bind fun bt367 => ((region_Last.f k t363 t366 (wrap64 (a2))).bind fun bt372 => (salvorlaw16_RegionEnds.l0 k a0 a2 t363 t366 bt367.2.2.2 bt372.2.2.2 0 bt367.1 bt367.2.1 bt367.2.2.1 bt372.1 bt372.2.1 bt372.2.2.1)))) = some r := H
    have A8 := Aside0.mk A80
    clear A80
    replace H := Option.bind_eq_some_iff.mp H
    obtain ⟨t366, A90, H⟩ := H
    replace H : ((region_First.f k t363 t366 (wrap64 (a2))).bind fun bt367 => ((region_Last.f k t363 t366 (wrap64 (a2))).bind fun bt372 => (salvorlaw16_RegionEnds.l0 k a0 a2 t363 t366 bt367.2.2.2 bt372.2.2.2 0 bt367.1 bt367.2.1 bt367.2.2.1 bt372.1 bt372.2.1 bt372.2.2.1))) = some r := H
    have A9 := Aside0.mk A90
    clear A90
    replace H := Option.bind_eq_some_iff.mp H
    obtain ⟨⟨t367, t368, t369, t370⟩, A100, H⟩ := H
    replace H : ((region_Last.f k t363 t366 (wrap64 (a2))).bind fun bt372 => (salvorlaw16_RegionEnds.l0 k a0 a2 t363 t366 t370 bt372.2.2.2 0 t367 t368 t369 bt372.1 bt372.2.1 bt372.2.2.1)) = some r := H
    have A10 := Aside0.mk A100
    clear A100
    replace H := Option.bind_eq_some_iff.mp H
    obtain ⟨⟨t372, t373, t374, t375⟩, A110, H⟩ := H
    replace H : (salvorlaw16_RegionEnds.l0 k a0 a2 t363 t366 t370 t375 0 t367 t368 t369 t372 t373 t374) = some r := H
    have A11 := Aside0.mk A110
    clear A110
    have H' := Aside0.mk H
    clear H
    go_enter Try.func9, Try.ntmps9
    go_wp2_with (first | ((with_reducible refine gate_callee (f := 23) rfl ?_); refine goesL_ (some 25) rfl rfl Try.func23 (by kernel_rfl) rfl #[.int .u8 a0, .slice A1 l1.length c1] rfl (by (try simp only [List.map_toArray, List.map_cons, List.map_nil]); first | done | rfl | (simp only [List.length_drop, List.length_take]; rfl)) ?_; (with_reducible refine (salvorlaw16_Made.calls k a0 _ _ l1 t363 _ ?side1 ?side2 A8.out).mono ?_); (case side1 => repeat (first | exact HR1.out | (with_reducible refine Kd.C_alloc ?_ _) | (with_reducible refine Kd.C_drewN ?_ _) | (with_reducible refine Kd.C_drew ?_))); (case side2 => exact HC1.out); rintro e w12 ⟨v364, rfl, ho0, hb⟩; refine ⟨_, rfl, ?_⟩; have n0_ := Aside0.mk (Kd.R_lower ho0 (below_size (by repeat (first | (with_reducible first | exact HB.out | apply below_alloc | apply pw_below_drewN | apply below_drew1) | exact HB.out)))); have n1_ := Aside0.mk (below_step (by repeat (first | (with_reducible first | exact HB.out | apply below_alloc | apply pw_below_drewN | apply below_drew1) | exact HB.out)) hb); clear HB; have HO365 := n0_; have HB := n1_; clear n0_ n1_; (try clear hb); (try clear hb2); (try clear hk); (try clear hi); (try clear ho0)) | ((with_reducible refine gate_callee (f := 24) rfl ?_); refine goesL_ (some 28) rfl rfl Try.func24 (by kernel_rfl) rfl #[.agg #[.int .u8 0, .int .u8 0, .int .u8 a3]] rfl (by (try simp only [List.map_toArray, List.map_cons, List.map_nil]); first | done | rfl | (simp only [List.length_drop, List.length_take]; rfl)) ?_; (with_reducible refine (salvorlaw16_Cut_of.calls 0 0 a3 t366 _ A9.out).mono ?_); rintro e w13 ⟨rfl, hb⟩; refine ⟨_, rfl, ?_⟩; have n0_ := Aside0.mk (Kd.R_below (by (with_reducible repeat (first | apply Kd.R_alloc | apply Kd.R_drewN | apply Kd.R_drew)); exact HO365.out) hb); have n1_ := Aside0.mk (below_step (by repeat (first | (with_reducible first | exact HB.out | apply below_alloc | apply pw_below_drewN | apply below_drew1) | exact HB.out)) hb); clear HO365; clear HB; have HO365 := n0_; have HB := n1_; clear n0_ n1_; (try clear hb); (try clear hb2); (try clear hk); (try clear hi); obtain ⟨Ao14, co14, eo14⟩ := Kd.R_slice HO365.out; subst eo14) | ((with_reducible refine gate_callee (f := 12) rfl ?_); refine goesL_ (some 34) rfl rfl Try.func12 (by kernel_rfl) rfl #[.slice Ao14 t363.length co14, .int .u8 t366, .int .i64 (wrap64 (a2))] rfl (by (try simp only [List.map_toArray, List.map_cons, List.map_nil]); first | done | rfl | (simp only [List.length_drop, List.length_take]; rfl)) ?_; (with_reducible refine (region_First.calls k _ _ t363 t366 (wrap64 (a2)) t367 t368 t369 t370 _ ?side1 ?side2 A10.out).mono ?_); (case side1 => repeat (first | exact (Kd.R_reads' HO365.out).2.2 | (with_reducible refine Kd.C_alloc ?_ _) | (with_reducible refine Kd.C_drewN ?_ _) | (with_reducible refine Kd.C_drew ?_))); (case side2 => exact (Kd.R_reads' HO365.out).2.1); rintro e w15 ⟨rfl, hb⟩; refine ⟨_, rfl, ?_⟩; have n0_ := Aside0.mk (Kd.R_below (by (with_reducible repeat (first | apply Kd.R_alloc | apply Kd.R_drewN | apply Kd.R_drew)); exact HO365.out) hb); have n1_ := Aside0.mk (below_step (by repeat (first | (with_reducible first | exact HB.out | apply below_alloc | apply pw_below_drewN | apply below_drew1) | exact HB.out)) hb); clear HO365; clear HB; have HO365 := n0_; have HB := n1_; clear n0_ n1_; (try clear hb); (try clear hb2); (try clear hk); (try clear hi)) | ((with_reducible refine gate_dst (N := 11) rfl ?_); refine box_event ?hg (N := 11) ?hd (cs := #[.int .i64 0, .int .i64 0, .int .u8 0]) (t := 26) ?hr ?_; (case hd => rfl); (case hg => rfl); (case hr => first | (go_simp; done) | (go_simp; rfl)); intro gb371 hg w16 hbox hb; have n0_ := Aside0.mk (Kd.R_below (Kd.R_elderB (by (with_reducible repeat (first | apply Kd.R_alloc | apply Kd.R_drewN | apply Kd.R_drew)); exact HO365.out) gb371 (Nat.le_of_eq hg.symm)) hb); have n1_ := Aside0.mk (below_step (by repeat (first | (with_reducible first | exact HB.out | apply below_alloc | apply pw_below_drewN | apply below_drew1) | exact HB.out)) hb); have n2_ := Aside0.mk (hbox); have n3_ := Aside0.mk ((by rw [hg]; exact (below_size (by repeat (first | (with_reducible first | exact HB.out | apply below_alloc | apply pw_below_drewN | apply below_drew1) | exact HB.out))) : w.heap.size ≤ gb371)); have n4_ := Aside0.mk ((by rw [hg]; exact (below_size (by repeat (first | (with_reducible first | exact HB.out | apply below_alloc | apply pw_below_drewN | apply below_drew1) | exact HB.out))) : w.heap.size ≤ gb371)); clear HO365; clear HB; have HO365 := n0_; have HB := n1_; have BK371 := n2_; have GW371 := n3_; have GE371 := n4_; clear n0_ n1_ n2_ n3_ n4_; clear hb hbox hg; have hcz17_0 : w16.cell? ⟨gb371, 0, none⟩ = some (.int .i64 0) := (blk_cell BK371.out 0).trans rfl; have hcz17_1 : w16.cell? ⟨gb371, 1, none⟩ = some (.int .i64 0) := (blk_cell BK371.out 1).trans rfl; have hcz17_2 : w16.cell? ⟨gb371, 2, none⟩ = some (.int .u8 0) := (blk_cell BK371.out 2).trans rfl; have hfz17_0 := blk_frozen BK371.out 0; have hfz17_1 := blk_frozen BK371.out 1; have hfz17_2 := blk_frozen BK371.out 2) | ((with_reducible refine gate_callee (f := 13) rfl ?_); refine goesL_ (some 42) rfl rfl Try.func13 (by kernel_rfl) rfl #[.slice Ao14 t363.length co14, .int .u8 t366, .int .i64 (wrap64 (a2))] rfl (by (try simp only [List.map_toArray, List.map_cons, List.map_nil]); first | done | rfl | (simp only [List.length_drop, List.length_take]; rfl)) ?_; (with_reducible refine (region_Last.calls k _ _ t363 t366 (wrap64 (a2)) t372 t373 t374 t375 _ ?side1 ?side2 A11.out).mono ?_); (case side1 => refine (Kd.R_reads' (e := 26) (base := w.heap.size) (ok := fun k_ => (True ∧ k_ ≠ gb371)) (n := t363.length) (c := co14) ?_).2.2; exact (by (with_reducible repeat (first | apply Kd.R_alloc | apply Kd.R_drewN | apply Kd.R_drew)); exact (Kd.R_mono (Kd.R_far (p := ⟨gb371, 2, none⟩) (Kd.R_far (p := ⟨gb371, 1, none⟩) (Kd.R_far (p := ⟨gb371, 0, none⟩) (Kd.R_mono HO365.out (fun k_ hk => (⟨hk, hk.2⟩ : _ ∧ k_ ≠ gb371))) (fun _ hk => hk.2) (.int .i64 t367)) (fun _ hk => hk.2) (.int .i64 t368)) (fun _ hk => hk.2) (.int .u8 t369)) (fun _ h_ => h_.1)))); (case side2 => exact (Kd.R_reads' HO365.out).2.1); rintro e w18 ⟨rfl, hb⟩; refine ⟨_, rfl, ?_⟩; have n0_ := Aside0.mk (Kd.R_below (by (with_reducible repeat (first | apply Kd.R_alloc | apply Kd.R_drewN | apply Kd.R_drew)); exact (Kd.R_mono (Kd.R_far (p := ⟨gb371, 2, none⟩) (Kd.R_far (p := ⟨gb371, 1, none⟩) (Kd.R_far (p := ⟨gb371, 0, none⟩) (Kd.R_mono HO365.out (fun k_ hk => (⟨hk, hk.2⟩ : _ ∧ k_ ≠ gb371))) (fun _ hk => hk.2) (.int .i64 t367)) (fun _ hk => hk.2) (.int .i64 t368)) (fun _ hk => hk.2) (.int .u8 t369)) (fun _ h_ => h_.1))) hb); have n1_ := Aside0.mk (blk_below (g := gb371) (o := .cells #[.int .i64 t367, .int .i64 t368, .int .u8 t369] 26 (0, 0)) (by (with_reducible repeat (first | refine blk_drewN ?_ _ | refine blk_drew ?_ | refine blk_alloc ?_ _)); refine blk_put (cs := #[.int .i64 t367, .int .i64 t368, .int .u8 0]) ?_ 2 _ rfl; (with_reducible repeat (first | refine blk_drewN ?_ _ | refine blk_drew ?_ | refine blk_alloc ?_ _)); refine blk_put (cs := #[.int .i64 t367, .int .i64 0, .int .u8 0]) ?_ 1 _ rfl; (with_reducible repeat (first | refine blk_drewN ?_ _ | refine blk_drew ?_ | refine blk_alloc ?_ _)); refine blk_put (cs := #[.int .i64 0, .int .i64 0, .int .u8 0]) ?_ 0 _ rfl; (with_reducible repeat (first | refine blk_drewN ?_ _ | refine blk_drew ?_ | refine blk_alloc ?_ _)); exact BK371.out) hb); have n2_ := Aside0.mk (below_step (by repeat (first | (with_reducible first | exact HB.out | apply below_alloc | apply pw_below_drewN | apply below_drew1 | refine below_set ?_ GE371.out) | exact HB.out)) hb); clear HO365; clear BK371; clear HB; have HO365 := n0_; have BK371 := n1_; have HB := n2_; clear n0_ n1_ n2_; (try clear hb); (try clear hb2); (try clear hk); (try clear hi)) | ((with_reducible refine gate_dst (N := 13) rfl ?_); refine box_event ?hg (N := 13) ?hd (cs := #[.int .i64 0, .int .i64 0, .int .u8 0]) (t := 26) ?hr ?_; (case hd => rfl); (case hg => rfl); (case hr => first | (go_simp; done) | (go_simp; rfl)); intro gb376 hg w19 hbox hb; have n0_ := Aside0.mk (Kd.R_below (Kd.R_elderB (by (with_reducible repeat (first | apply Kd.R_alloc | apply Kd.R_drewN | apply Kd.R_drew)); exact HO365.out) gb376 (Nat.le_of_eq hg.symm)) hb); have n1_ := Aside0.mk (blk_below (g := gb371) (o := .cells #[.int .i64 t367, .int .i64 t368, .int .u8 t369] 26 (0, 0)) (by (with_reducible repeat (first | refine blk_drewN ?_ _ | refine blk_drew ?_ | refine blk_alloc ?_ _)); exact BK371.out) hb); have n2_ := Aside0.mk (below_step (by repeat (first | (with_reducible first | exact HB.out | apply below_alloc | apply pw_below_drewN | apply below_drew1 | refine below_set ?_ GE371.out) | exact HB.out)) hb); have n3_ := Aside0.mk (hbox); have n4_ := Aside0.mk ((by rw [hg]; exact (below_size (by repeat (first | (with_reducible first | exact HB.out | apply below_alloc | apply pw_below_drewN | apply below_drew1 | refine below_set ?_ GE371.out) | exact HB.out))) : w.heap.size ≤ gb376)); have n5_ := Aside0.mk ((by rw [hg]; exact (below_size (by repeat (first | (with_reducible first | exact HB.out | apply below_alloc | apply pw_below_drewN | apply below_drew1 | refine below_set ?_ GE371.out) | exact HB.out))) : w.heap.size ≤ gb376)); have n6_ := Aside0.mk ((by rw [hg]; exact Nat.ne_of_lt (blk_lt (g := gb371) (o := .cells #[.int .i64 t367, .int .i64 t368, .int .u8 t369] 26 (0, 0)) (by (with_reducible repeat (first | refine blk_drewN ?_ _ | refine blk_drew ?_ | refine blk_alloc ?_ _)); exact BK371.out)) : gb371 ≠ gb376)); have n7_ := Aside0.mk ((by rw [hg]; exact Nat.ne_of_gt (blk_lt (g := gb371) (o := .cells #[.int .i64 t367, .int .i64 t368, .int .u8 t369] 26 (0, 0)) (by (with_reducible repeat (first | refine blk_drewN ?_ _ | refine blk_drew ?_ | refine blk_alloc ?_ _)); exact BK371.out)) : gb376 ≠ gb371)); clear HO365; clear BK371; clear HB; have HO365 := n0_; have BK371 := n1_; have HB := n2_; have BK376 := n3_; have GW376 := n4_; have GE376 := n5_; have NB371_376 := n6_; have NB376_371 := n7_; clear n0_ n1_ n2_ n3_ n4_ n5_ n6_ n7_; clear hb hbox hg; have hnb20 := NB376_371.out; have hnc20 := NB371_376.out; have hcz21_0 : w19.cell? ⟨gb376, 0, none⟩ = some (.int .i64 0) := (blk_cell BK376.out 0).trans rfl; have hcz21_1 : w19.cell? ⟨gb376, 1, none⟩ = some (.int .i64 0) := (blk_cell BK376.out 1).trans rfl; have hcz21_2 : w19.cell? ⟨gb376, 2, none⟩ = some (.int .u8 0) := (blk_cell BK376.out 2).trans rfl; have hfz21_0 := blk_frozen BK376.out 0; have hfz21_1 := blk_frozen BK376.out 1; have hfz21_2 := blk_frozen BK376.out 2))
    go_loopg [15] k (fun kq v15 w' => ∃ (x15_1 : Int), v15 = .int .i64 x15_1 ∧ Aside0 (salvorlaw16_RegionEnds.l0 kq a0 a2 t363 t366 t370 t375 x15_1 t367 t368 t369 t372 t373 t374 = some r) ∧ Aside0 (kq ≤ k) ∧ Aside0 (Kd.R k26 26 w' w.heap.size (fun k_ => k_ ≠ gb371 ∧ k_ ≠ gb376) (.slice Ao14 t363.length co14) t363) ∧ Aside0 (w'.heap[gb371]? = some (.cells #[.int .i64 t367, .int .i64 t368, .int .u8 t369] 26 (0, 0))) ∧ Aside0 (w'.heap[gb376]? = some (.cells #[.int .i64 t372, .int .i64 t373, .int .u8 t374] 26 (0, 0))) ∧ Aside0 (Below w.heap.size w w'))
    case atStart => exact ⟨(0), (by first | rfl | (simp; done) | (simp [*]; done)), H', ⟨Nat.le_refl _⟩, ⟨by (with_reducible repeat (first | apply Kd.R_alloc | apply Kd.R_drewN | apply Kd.R_drew)); exact Kd.R_mono (Kd.R_far (p := ⟨gb376, 2, none⟩) (Kd.R_far (p := ⟨gb376, 1, none⟩) (Kd.R_far (p := ⟨gb376, 0, none⟩) (Kd.R_mono HO365.out (fun k_ hk => (⟨hk, hk.2⟩ : _ ∧ k_ ≠ gb376))) (fun _ hk => hk.2) (.int .i64 t372)) (fun _ hk => hk.2) (.int .i64 t373)) (fun _ hk => hk.2) (.int .u8 t374)) (fun _ hk => ⟨hk.1.1.2, hk.1.2⟩)⟩, ⟨by (with_reducible repeat (first | refine blk_drewN ?_ _ | refine blk_drew ?_ | refine blk_alloc ?_ _)); refine blk_far ?_ NB371_376.out _; (with_reducible repeat (first | refine blk_drewN ?_ _ | refine blk_drew ?_ | refine blk_alloc ?_ _)); refine blk_far ?_ NB371_376.out _; (with_reducible repeat (first | refine blk_drewN ?_ _ | refine blk_drew ?_ | refine blk_alloc ?_ _)); refine blk_far ?_ NB371_376.out _; (with_reducible repeat (first | refine blk_drewN ?_ _ | refine blk_drew ?_ | refine blk_alloc ?_ _)); exact BK371.out⟩, ⟨by (with_reducible repeat (first | refine blk_drewN ?_ _ | refine blk_drew ?_ | refine blk_alloc ?_ _)); refine blk_put (cs := #[.int .i64 t372, .int .i64 t373, .int .u8 0]) ?_ 2 _ rfl; (with_reducible repeat (first | refine blk_drewN ?_ _ | refine blk_drew ?_ | refine blk_alloc ?_ _)); refine blk_put (cs := #[.int .i64 t372, .int .i64 0, .int .u8 0]) ?_ 1 _ rfl; (with_reducible repeat (first | refine blk_drewN ?_ _ | refine blk_drew ?_ | refine blk_alloc ?_ _)); refine blk_put (cs := #[.int .i64 0, .int .i64 0, .int .u8 0]) ?_ 0 _ rfl; (with_reducible repeat (first | refine blk_drewN ?_ _ | refine blk_drew ?_ | refine blk_alloc ?_ _)); exact BK376.out⟩, ⟨by repeat (first | (with_reducible first | exact HB.out | apply below_alloc | apply pw_below_drewN | apply below_drew1 | refine below_set ?_ GE371.out | refine below_set ?_ GE376.out) | exact HB.out)⟩⟩
    case round =>
      clear H'
      try clear c1
      try clear c2
      try clear p2
      try clear c3
      try clear c5
      try clear c5b0
      try clear c5b1
      try clear p6
      try clear c9
      try clear c12
      try clear c13
      try clear c20
      try clear hcz17_0
      try clear hcz17_1
      try clear hcz17_2
      try clear hcz21_0
      try clear hcz21_1
      try clear hcz21_2
      try clear hfz17_0
      try clear hfz17_1
      try clear hfz17_2
      try clear hfz21_0
      try clear hfz21_1
      try clear hfz21_2
      obtain ⟨x15_1, rfl, HA, HK1, HO_9, BK371, BK376, HB⟩ := hrel
      cases gk with
      | zero => exact absurd HA.out (by simp [salvorlaw16_RegionEnds.l0])
      | succ k1 =>
        have H := HA.out
        clear HA
        simp only [salvorlaw16_RegionEnds.l0] at H
        by_cases c22 : x15_1 < (wrap64 (a0))
        · rw [if_pos c22] at H
          have c22b0 : decide (x15_1 < (wrap64 (a0))) = true := decide_eq_true c22
          clear c22
          replace H := Option.bind_eq_some_iff.mp H
          obtain ⟨⟨t381, t382, t383, t384⟩, A230, H⟩ := H
          replace H : (if x15_1 ≥ (wrap64 (a2)) then (if t383 = t366 then (if t370 = true then (if x15_1 < t367 then (salvorlaw16_RegionEnds.j1 k1 a0 a2 t363 t366 t370 t375 x15_1 (t383 == t366) true t367 t368 t369 t372 t373 t374) else (if x15_1 < (wrap64 (a2)) then (if t375 = true then (salvorlaw16_RegionEnds.j1 k1 a0 a2 t363 t366 t370 t375 x15_1 (t383 == t366) (decide (x15_1 ≥ (wrap64 (t372 + t373)))) t367 t368 t369 t372 t373 t374) else (salvorlaw16_RegionEnds.j1 k1 a0 a2 t363 t366 t370 t375 x15_1 (t383 == t366) true t367 t368 t369 t372 t373 t374)) else (salvorlaw16_RegionEnds.j1 k1 a0 a2 t363 t366 t370 t375 x15_1 (t383 == t366) false t367 t368 t369 t372 t373 t374))) else (salvorlaw16_RegionEnds.j1 k1 a0 a2 t363 t366 t370 t375 x15_1 (t383 == t366) true t367 t368 t369 t372 t373 t374)) else (if x15_1 < (wrap64 (a2)) then (salvorlaw16_RegionEnds.j1 k1 a0 a2 t363 t366 t370 t375 x15_1 (t383 == t366) false t367 t368 t369 t372 t373 t374) else (salvorlaw16_RegionEnds.j1 k1 a0 a2 t363 t366 t370 t375 x15_1 (t383 == t366) false t367 t368 t369 t372 t373 t374))) else (if x15_1 < (wrap64 (a2)) then (if t383 = t366 then (if t375 = true then (salvorlaw16_RegionEnds.j1 k1 a0 a2 t363 t366 t370 t375 x15_1 (t383 == t366) (decide (x15_1 ≥ (wrap64 (t372 + t373)))) t367 t368 t369 t372 t373 t374) else (salvorlaw16_RegionEnds.j1 k1 a0 a2 t363 t366 t370 t375 x15_1 (t383 == t366) true t367 t368 t369 t372 t373 t374)) else (salvorlaw16_RegionEnds.j1 k1 a0 a2 t363 t366 t370 t375 x15_1 (t383 == t366) false t367 t368 t369 t372 t373 t374)) else (salvorlaw16_RegionEnds.j1 k1 a0 a2 t363 t366 t370 t375 x15_1 (t383 == t366) false t367 t368 t369 t372 t373 t374))) = some r := H
          have A23 := Aside0.mk A230
          clear A230
          have HC24 := Aside0.mk H
          clear H
          go_upto_region 12 with (first | ((with_reducible refine gate_callee (f := 25) rfl ?_); refine goesL_ (some 54) rfl rfl Try.func25 (by kernel_rfl) rfl #[.slice Ao14 t363.length co14, .int .i64 x15_1] rfl (by (try simp only [List.map_toArray, List.map_cons, List.map_nil]); first | done | rfl | (simp only [List.length_drop, List.length_take]; rfl)) ?_; (with_reducible refine (region_At.calls k1 _ _ t363 x15_1 t381 t382 t383 t384 _ ?side1 ?side2 A23.out).mono ?_); (case side1 => repeat (first | exact (Kd.R_reads' HO_9.out).2.2 | (with_reducible refine Kd.C_alloc ?_ _) | (with_reducible refine Kd.C_drewN ?_ _) | (with_reducible refine Kd.C_drew ?_))); (case side2 => exact (Kd.R_reads' HO_9.out).2.1); rintro e w25 ⟨rfl, hb⟩; refine ⟨_, rfl, ?_⟩; have n0_ := Aside0.mk (Kd.R_below (by (with_reducible repeat (first | apply Kd.R_alloc | apply Kd.R_drewN | apply Kd.R_drew)); exact HO_9.out) hb); have n1_ := Aside0.mk (blk_below (g := gb371) (o := .cells #[.int .i64 t367, .int .i64 t368, .int .u8 t369] 26 (0, 0)) (by (with_reducible repeat (first | refine blk_drewN ?_ _ | refine blk_drew ?_ | refine blk_alloc ?_ _)); exact BK371.out) hb); have n2_ := Aside0.mk (blk_below (g := gb376) (o := .cells #[.int .i64 t372, .int .i64 t373, .int .u8 t374] 26 (0, 0)) (by (with_reducible repeat (first | refine blk_drewN ?_ _ | refine blk_drew ?_ | refine blk_alloc ?_ _)); exact BK376.out) hb); have n3_ := Aside0.mk (below_step (by repeat (first | (with_reducible first | exact HB.out | apply below_alloc | apply pw_below_drewN | apply below_drew1 | refine below_set ?_ GE371.out | refine below_set ?_ GE376.out) | exact HB.out)) hb); clear HO_9; clear BK371; clear BK376; clear HB; have HO_9 := n0_; have BK371 := n1_; have BK376 := n2_; have HB := n3_; clear n0_ n1_ n2_ n3_; (try clear hb); (try clear hb2); (try clear hk); (try clear hi)) | ((with_reducible refine gate_dst (N := 16) rfl ?_); refine box_event ?hg (N := 16) ?hd (cs := #[.int .i64 0, .int .i64 0, .int .u8 0]) (t := 26) ?hr ?_; (case hd => rfl); (case hg => rfl); (case hr => first | (go_simp; done) | (go_simp; rfl)); intro gb385 hg w26 hbox hb; have n0_ := Aside0.mk (Kd.R_below (Kd.R_elderB (by (with_reducible repeat (first | apply Kd.R_alloc | apply Kd.R_drewN | apply Kd.R_drew)); exact HO_9.out) gb385 (Nat.le_of_eq hg.symm)) hb); have n1_ := Aside0.mk (blk_below (g := gb371) (o := .cells #[.int .i64 t367, .int .i64 t368, .int .u8 t369] 26 (0, 0)) (by (with_reducible repeat (first | refine blk_drewN ?_ _ | refine blk_drew ?_ | refine blk_alloc ?_ _)); exact BK371.out) hb); have n2_ := Aside0.mk (blk_below (g := gb376) (o := .cells #[.int .i64 t372, .int .i64 t373, .int .u8 t374] 26 (0, 0)) (by (with_reducible repeat (first | refine blk_drewN ?_ _ | refine blk_drew ?_ | refine blk_alloc ?_ _)); exact BK376.out) hb); have n3_ := Aside0.mk (below_step (by repeat (first | (with_reducible first | exact HB.out | apply below_alloc | apply pw_below_drewN | apply below_drew1 | refine below_set ?_ GE371.out | refine below_set ?_ GE376.out) | exact HB.out)) hb); have n4_ := Aside0.mk (hbox); have n5_ := Aside0.mk ((by rw [hg]; exact (below_size (by repeat (first | (with_reducible first | exact HB.out | apply below_alloc | apply pw_below_drewN | apply below_drew1 | refine below_set ?_ GE371.out | refine below_set ?_ GE376.out) | exact HB.out))) : w.heap.size ≤ gb385)); have n6_ := Aside0.mk ((by rw [hg]; exact (below_size (by repeat (first | (with_reducible first | exact HB.out | apply below_alloc | apply pw_below_drewN | apply below_drew1 | refine below_set ?_ GE371.out | refine below_set ?_ GE376.out) | exact HB.out))) : w.heap.size ≤ gb385)); have n7_ := Aside0.mk ((by rw [hg]; exact Nat.ne_of_lt (blk_lt (g := gb371) (o := .cells #[.int .i64 t367, .int .i64 t368, .int .u8 t369] 26 (0, 0)) (by (with_reducible repeat (first | refine blk_drewN ?_ _ | refine blk_drew ?_ | refine blk_alloc ?_ _)); exact BK371.out)) : gb371 ≠ gb385)); have n8_ := Aside0.mk ((by rw [hg]; exact Nat.ne_of_gt (blk_lt (g := gb371) (o := .cells #[.int .i64 t367, .int .i64 t368, .int .u8 t369] 26 (0, 0)) (by (with_reducible repeat (first | refine blk_drewN ?_ _ | refine blk_drew ?_ | refine blk_alloc ?_ _)); exact BK371.out)) : gb385 ≠ gb371)); have n9_ := Aside0.mk ((by rw [hg]; exact Nat.ne_of_lt (blk_lt (g := gb376) (o := .cells #[.int .i64 t372, .int .i64 t373, .int .u8 t374] 26 (0, 0)) (by (with_reducible repeat (first | refine blk_drewN ?_ _ | refine blk_drew ?_ | refine blk_alloc ?_ _)); exact BK376.out)) : gb376 ≠ gb385)); have n10_ := Aside0.mk ((by rw [hg]; exact Nat.ne_of_gt (blk_lt (g := gb376) (o := .cells #[.int .i64 t372, .int .i64 t373, .int .u8 t374] 26 (0, 0)) (by (with_reducible repeat (first | refine blk_drewN ?_ _ | refine blk_drew ?_ | refine blk_alloc ?_ _)); exact BK376.out)) : gb385 ≠ gb376)); clear HO_9; clear BK371; clear BK376; clear HB; have HO_9 := n0_; have BK371 := n1_; have BK376 := n2_; have HB := n3_; have BK385 := n4_; have GW385 := n5_; have GE385 := n6_; have NB371_385 := n7_; have NB385_371 := n8_; have NB376_385 := n9_; have NB385_376 := n10_; clear n0_ n1_ n2_ n3_ n4_ n5_ n6_ n7_ n8_ n9_ n10_; clear hb hbox hg; have hnb27 := NB385_371.out; have hnc27 := NB371_385.out; have hnb28 := NB385_376.out; have hnc28 := NB376_385.out; have hcz29_0 : w26.cell? ⟨gb385, 0, none⟩ = some (.int .i64 0) := (blk_cell BK385.out 0).trans rfl; have hcz29_1 : w26.cell? ⟨gb385, 1, none⟩ = some (.int .i64 0) := (blk_cell BK385.out 1).trans rfl; have hcz29_2 : w26.cell? ⟨gb385, 2, none⟩ = some (.int .u8 0) := (blk_cell BK385.out 2).trans rfl; have hfz29_0 := blk_frozen BK385.out 0; have hfz29_1 := blk_frozen BK385.out 1; have hfz29_2 := blk_frozen BK385.out 2))
          (try simp only [Act.put, List.setIfInBounds_toArray, List.set_cons_zero, List.set_cons_succ])
          go_cut [99] (fun v99 wc => ∃ (kq : Nat) (x99_23 : Bool), v99 = .bool x99_23 ∧ Aside0 (salvorlaw16_RegionEnds.j1 kq a0 a2 t363 t366 t370 t375 x15_1 (t383 == t366) x99_23 t367 t368 t369 t372 t373 t374 = some r) ∧ Aside0 (kq ≤ k1) ∧ Aside0 (Kd.R k26 26 wc w.heap.size (fun k_ => k_ ≠ gb371 ∧ k_ ≠ gb376 ∧ k_ ≠ gb385) (.slice Ao14 t363.length co14) t363) ∧ Aside0 (wc.heap[gb371]? = some (.cells #[.int .i64 t367, .int .i64 t368, .int .u8 t369] 26 (0, 0))) ∧ Aside0 (wc.heap[gb376]? = some (.cells #[.int .i64 t372, .int .i64 t373, .int .u8 t374] 26 (0, 0))) ∧ Aside0 (wc.heap[gb385]? = some (.cells #[.int .i64 t381, .int .i64 t382, .int .u8 t383] 26 (0, 0))) ∧ Aside0 (Below w.heap.size w wc))
          case first =>
            have H := HC24.out
            clear HC24
            by_cases c30 : x15_1 ≥ (wrap64 (a2))
            · rw [if_pos c30] at H
              have c30b0 : decide ((wrap64 (a2)) ≤ x15_1) = true := decide_eq_true c30
              clear c30
              (first | rw [c30b0] | (simp only [i64_w, i32_w]; rw [c30b0]) | skip)
              by_cases c31 : t383 = t366
              · rw [if_pos c31] at H
                have c31b0 : (t383 == t366) = true := beq_iff_eq.mpr c31
                have c31b1 : (t383 != t366) = false := bne_eq_false_iff_eq.mpr c31
                clear c31
                by_cases c32 : t370 = true
                · subst c32
                  have H1 : (if x15_1 < t367 then (salvorlaw16_RegionEnds.j1 k1 a0 a2 t363 t366 true t375 x15_1 (t383 == t366) true t367 t368 t369 t372 t373 t374) else (if x15_1 < (wrap64 (a2)) then (if t375 = true then (salvorlaw16_RegionEnds.j1 k1 a0 a2 t363 t366 true t375 x15_1 (t383 == t366) (decide (x15_1 ≥ (wrap64 (t372 + t373)))) t367 t368 t369 t372 t373 t374) else (salvorlaw16_RegionEnds.j1 k1 a0 a2 t363 t366 true t375 x15_1 (t383 == t366) true t367 t368 t369 t372 t373 t374)) else (salvorlaw16_RegionEnds.j1 k1 a0 a2 t363 t366 true t375 x15_1 (t383 == t366) false t367 t368 t369 t372 t373 t374))) = some r := by rw [if_pos rfl] at H; exact H
                  clear H
                  have H := H1
                  clear H1
                  by_cases c33 : x15_1 < t367
                  · rw [if_pos c33] at H
                    have c33b0 : decide (x15_1 < t367) = true := decide_eq_true c33
                    clear c33
                    have H' := Aside0.mk H
                    clear H
                    have hnb34 := NB371_376.out
                    have hnc34 := NB376_371.out
                    have hnb35 := NB371_385.out
                    have hnc35 := NB385_371.out
                    have hcz36_0 : w26.cell? ⟨gb371, 0, none⟩ = some (.int .i64 t367) := (blk_cell BK371.out 0).trans rfl
                    have hcz36_1 : w26.cell? ⟨gb371, 1, none⟩ = some (.int .i64 t368) := (blk_cell BK371.out 1).trans rfl
                    have hcz36_2 : w26.cell? ⟨gb371, 2, none⟩ = some (.int .u8 t369) := (blk_cell BK371.out 2).trans rfl
                    have hfz36_0 := blk_frozen BK371.out 0
                    have hfz36_1 := blk_frozen BK371.out 1
                    have hfz36_2 := blk_frozen BK371.out 2
                    go_wp2
                    go_meet
                    case rel => exact ⟨_, (true), (by first | rfl | (simp; done) | (simp [*]; done)), H', ⟨by have := HK1.out; first | omega | exact Nat.le_refl _⟩, ⟨by (with_reducible repeat (first | apply Kd.R_alloc | apply Kd.R_drewN | apply Kd.R_drew)); exact Kd.R_mono (Kd.R_far (p := ⟨gb385, 2, none⟩) (Kd.R_far (p := ⟨gb385, 1, none⟩) (Kd.R_far (p := ⟨gb385, 0, none⟩) (Kd.R_mono HO_9.out (fun k_ hk => (⟨hk, hk.2⟩ : _ ∧ k_ ≠ gb385))) (fun _ hk => hk.2) (.int .i64 t381)) (fun _ hk => hk.2) (.int .i64 t382)) (fun _ hk => hk.2) (.int .u8 t383)) (fun _ hk => ⟨hk.1.1.1, ⟨hk.1.1.2, hk.1.2⟩⟩)⟩, ⟨by (with_reducible repeat (first | refine blk_drewN ?_ _ | refine blk_drew ?_ | refine blk_alloc ?_ _)); refine blk_far ?_ NB371_385.out _; (with_reducible repeat (first | refine blk_drewN ?_ _ | refine blk_drew ?_ | refine blk_alloc ?_ _)); refine blk_far ?_ NB371_385.out _; (with_reducible repeat (first | refine blk_drewN ?_ _ | refine blk_drew ?_ | refine blk_alloc ?_ _)); refine blk_far ?_ NB371_385.out _; (with_reducible repeat (first | refine blk_drewN ?_ _ | refine blk_drew ?_ | refine blk_alloc ?_ _)); exact BK371.out⟩, ⟨by (with_reducible repeat (first | refine blk_drewN ?_ _ | refine blk_drew ?_ | refine blk_alloc ?_ _)); refine blk_far ?_ NB376_385.out _; (with_reducible repeat (first | refine blk_drewN ?_ _ | refine blk_drew ?_ | refine blk_alloc ?_ _)); refine blk_far ?_ NB376_385.out _; (with_reducible repeat (first | refine blk_drewN ?_ _ | refine blk_drew ?_ | refine blk_alloc ?_ _)); refine blk_far ?_ NB376_385.out _; (with_reducible repeat (first | refine blk_drewN ?_ _ | refine blk_drew ?_ | refine blk_alloc ?_ _)); exact BK376.out⟩, ⟨by (with_reducible repeat (first | refine blk_drewN ?_ _ | refine blk_drew ?_ | refine blk_alloc ?_ _)); refine blk_put (cs := #[.int .i64 t381, .int .i64 t382, .int .u8 0]) ?_ 2 _ rfl; (with_reducible repeat (first | refine blk_drewN ?_ _ | refine blk_drew ?_ | refine blk_alloc ?_ _)); refine blk_put (cs := #[.int .i64 t381, .int .i64 0, .int .u8 0]) ?_ 1 _ rfl; (with_reducible repeat (first | refine blk_drewN ?_ _ | refine blk_drew ?_ | refine blk_alloc ?_ _)); refine blk_put (cs := #[.int .i64 0, .int .i64 0, .int .u8 0]) ?_ 0 _ rfl; (with_reducible repeat (first | refine blk_drewN ?_ _ | refine blk_drew ?_ | refine blk_alloc ?_ _)); exact BK385.out⟩, ⟨by repeat (first | (with_reducible first | exact HB.out | apply below_alloc | apply pw_below_drewN | apply below_drew1 | refine below_set ?_ GE371.out | refine below_set ?_ GE376.out | refine below_set ?_ GE385.out) | exact HB.out)⟩⟩
                  · rw [if_neg c33] at H
                    have c33b0 : decide (x15_1 < t367) = false := decide_eq_false c33
                    clear c33
                    by_cases c37 : x15_1 < (wrap64 (a2))
                    · rw [if_pos c37] at H
                      have c37b0 : decide (x15_1 < (wrap64 (a2))) = true := decide_eq_true c37
                      clear c37
                      by_cases c38 : t375 = true
                      · subst c38
                        have H1 : (salvorlaw16_RegionEnds.j1 k1 a0 a2 t363 t366 true true x15_1 (t383 == t366) (decide (x15_1 ≥ (wrap64 (t372 + t373)))) t367 t368 t369 t372 t373 t374) = some r := by rw [if_pos rfl] at H; exact H
                        clear H
                        have H := H1
                        clear H1
                        have H' := Aside0.mk H
                        clear H
                        have hnb39 := NB371_376.out
                        have hnc39 := NB376_371.out
                        have hnb40 := NB371_385.out
                        have hnc40 := NB385_371.out
                        have hcz41_0 : w26.cell? ⟨gb371, 0, none⟩ = some (.int .i64 t367) := (blk_cell BK371.out 0).trans rfl
                        have hcz41_1 : w26.cell? ⟨gb371, 1, none⟩ = some (.int .i64 t368) := (blk_cell BK371.out 1).trans rfl
                        have hcz41_2 : w26.cell? ⟨gb371, 2, none⟩ = some (.int .u8 t369) := (blk_cell BK371.out 2).trans rfl
                        have hfz41_0 := blk_frozen BK371.out 0
                        have hfz41_1 := blk_frozen BK371.out 1
                        have hfz41_2 := blk_frozen BK371.out 2
                        have hnb42 := NB376_385.out
                        have hnc42 := NB385_376.out
                        have hcz43_0 : w26.cell? ⟨gb376, 0, none⟩ = some (.int .i64 t372) := (blk_cell BK376.out 0).trans rfl
                        have hcz43_1 : w26.cell? ⟨gb376, 1, none⟩ = some (.int .i64 t373) := (blk_cell BK376.out 1).trans rfl
                        have hcz43_2 : w26.cell? ⟨gb376, 2, none⟩ = some (.int .u8 t374) := (blk_cell BK376.out 2).trans rfl
                        have hfz43_0 := blk_frozen BK376.out 0
                        have hfz43_1 := blk_frozen BK376.out 1
                        have hfz43_2 := blk_frozen BK376.out 2
                        go_wp2
                        go_meet
                        case rel => exact ⟨_, (decide (x15_1 ≥ (wrap64 (t372 + t373)))), (by first | rfl | (simp; done) | (simp [*]; done)), H', ⟨by have := HK1.out; first | omega | exact Nat.le_refl _⟩, ⟨by (with_reducible repeat (first | apply Kd.R_alloc | apply Kd.R_drewN | apply Kd.R_drew)); exact Kd.R_mono (Kd.R_far (p := ⟨gb385, 2, none⟩) (Kd.R_far (p := ⟨gb385, 1, none⟩) (Kd.R_far (p := ⟨gb385, 0, none⟩) (Kd.R_mono HO_9.out (fun k_ hk => (⟨hk, hk.2⟩ : _ ∧ k_ ≠ gb385))) (fun _ hk => hk.2) (.int .i64 t381)) (fun _ hk => hk.2) (.int .i64 t382)) (fun _ hk => hk.2) (.int .u8 t383)) (fun _ hk => ⟨hk.1.1.1, ⟨hk.1.1.2, hk.1.2⟩⟩)⟩, ⟨by (with_reducible repeat (first | refine blk_drewN ?_ _ | refine blk_drew ?_ | refine blk_alloc ?_ _)); refine blk_far ?_ NB371_385.out _; (with_reducible repeat (first | refine blk_drewN ?_ _ | refine blk_drew ?_ | refine blk_alloc ?_ _)); refine blk_far ?_ NB371_385.out _; (with_reducible repeat (first | refine blk_drewN ?_ _ | refine blk_drew ?_ | refine blk_alloc ?_ _)); refine blk_far ?_ NB371_385.out _; (with_reducible repeat (first | refine blk_drewN ?_ _ | refine blk_drew ?_ | refine blk_alloc ?_ _)); exact BK371.out⟩, ⟨by (with_reducible repeat (first | refine blk_drewN ?_ _ | refine blk_drew ?_ | refine blk_alloc ?_ _)); refine blk_far ?_ NB376_385.out _; (with_reducible repeat (first | refine blk_drewN ?_ _ | refine blk_drew ?_ | refine blk_alloc ?_ _)); refine blk_far ?_ NB376_385.out _; (with_reducible repeat (first | refine blk_drewN ?_ _ | refine blk_drew ?_ | refine blk_alloc ?_ _)); refine blk_far ?_ NB376_385.out _; (with_reducible repeat (first | refine blk_drewN ?_ _ | refine blk_drew ?_ | refine blk_alloc ?_ _)); exact BK376.out⟩, ⟨by (with_reducible repeat (first | refine blk_drewN ?_ _ | refine blk_drew ?_ | refine blk_alloc ?_ _)); refine blk_put (cs := #[.int .i64 t381, .int .i64 t382, .int .u8 0]) ?_ 2 _ rfl; (with_reducible repeat (first | refine blk_drewN ?_ _ | refine blk_drew ?_ | refine blk_alloc ?_ _)); refine blk_put (cs := #[.int .i64 t381, .int .i64 0, .int .u8 0]) ?_ 1 _ rfl; (with_reducible repeat (first | refine blk_drewN ?_ _ | refine blk_drew ?_ | refine blk_alloc ?_ _)); refine blk_put (cs := #[.int .i64 0, .int .i64 0, .int .u8 0]) ?_ 0 _ rfl; (with_reducible repeat (first | refine blk_drewN ?_ _ | refine blk_drew ?_ | refine blk_alloc ?_ _)); exact BK385.out⟩, ⟨by repeat (first | (with_reducible first | exact HB.out | apply below_alloc | apply pw_below_drewN | apply below_drew1 | refine below_set ?_ GE371.out | refine below_set ?_ GE376.out | refine below_set ?_ GE385.out) | exact HB.out)⟩⟩
                      · replace c38 := Bool.eq_false_iff.mpr c38
                        subst c38
                        have H1 : (salvorlaw16_RegionEnds.j1 k1 a0 a2 t363 t366 true false x15_1 (t383 == t366) true t367 t368 t369 t372 t373 t374) = some r := by rw [if_neg (show ¬ (false = true) by decide)] at H; exact H
                        clear H
                        have H := H1
                        clear H1
                        have H' := Aside0.mk H
                        clear H
                        have hnb44 := NB371_376.out
                        have hnc44 := NB376_371.out
                        have hnb45 := NB371_385.out
                        have hnc45 := NB385_371.out
                        have hcz46_0 : w26.cell? ⟨gb371, 0, none⟩ = some (.int .i64 t367) := (blk_cell BK371.out 0).trans rfl
                        have hcz46_1 : w26.cell? ⟨gb371, 1, none⟩ = some (.int .i64 t368) := (blk_cell BK371.out 1).trans rfl
                        have hcz46_2 : w26.cell? ⟨gb371, 2, none⟩ = some (.int .u8 t369) := (blk_cell BK371.out 2).trans rfl
                        have hfz46_0 := blk_frozen BK371.out 0
                        have hfz46_1 := blk_frozen BK371.out 1
                        have hfz46_2 := blk_frozen BK371.out 2
                        go_wp2
                        go_meet
                        case rel => exact ⟨_, (true), (by first | rfl | (simp; done) | (simp [*]; done)), H', ⟨by have := HK1.out; first | omega | exact Nat.le_refl _⟩, ⟨by (with_reducible repeat (first | apply Kd.R_alloc | apply Kd.R_drewN | apply Kd.R_drew)); exact Kd.R_mono (Kd.R_far (p := ⟨gb385, 2, none⟩) (Kd.R_far (p := ⟨gb385, 1, none⟩) (Kd.R_far (p := ⟨gb385, 0, none⟩) (Kd.R_mono HO_9.out (fun k_ hk => (⟨hk, hk.2⟩ : _ ∧ k_ ≠ gb385))) (fun _ hk => hk.2) (.int .i64 t381)) (fun _ hk => hk.2) (.int .i64 t382)) (fun _ hk => hk.2) (.int .u8 t383)) (fun _ hk => ⟨hk.1.1.1, ⟨hk.1.1.2, hk.1.2⟩⟩)⟩, ⟨by (with_reducible repeat (first | refine blk_drewN ?_ _ | refine blk_drew ?_ | refine blk_alloc ?_ _)); refine blk_far ?_ NB371_385.out _; (with_reducible repeat (first | refine blk_drewN ?_ _ | refine blk_drew ?_ | refine blk_alloc ?_ _)); refine blk_far ?_ NB371_385.out _; (with_reducible repeat (first | refine blk_drewN ?_ _ | refine blk_drew ?_ | refine blk_alloc ?_ _)); refine blk_far ?_ NB371_385.out _; (with_reducible repeat (first | refine blk_drewN ?_ _ | refine blk_drew ?_ | refine blk_alloc ?_ _)); exact BK371.out⟩, ⟨by (with_reducible repeat (first | refine blk_drewN ?_ _ | refine blk_drew ?_ | refine blk_alloc ?_ _)); refine blk_far ?_ NB376_385.out _; (with_reducible repeat (first | refine blk_drewN ?_ _ | refine blk_drew ?_ | refine blk_alloc ?_ _)); refine blk_far ?_ NB376_385.out _; (with_reducible repeat (first | refine blk_drewN ?_ _ | refine blk_drew ?_ | refine blk_alloc ?_ _)); refine blk_far ?_ NB376_385.out _; (with_reducible repeat (first | refine blk_drewN ?_ _ | refine blk_drew ?_ | refine blk_alloc ?_ _)); exact BK376.out⟩, ⟨by (with_reducible repeat (first | refine blk_drewN ?_ _ | refine blk_drew ?_ | refine blk_alloc ?_ _)); refine blk_put (cs := #[.int .i64 t381, .int .i64 t382, .int .u8 0]) ?_ 2 _ rfl; (with_reducible repeat (first | refine blk_drewN ?_ _ | refine blk_drew ?_ | refine blk_alloc ?_ _)); refine blk_put (cs := #[.int .i64 t381, .int .i64 0, .int .u8 0]) ?_ 1 _ rfl; (with_reducible repeat (first | refine blk_drewN ?_ _ | refine blk_drew ?_ | refine blk_alloc ?_ _)); refine blk_put (cs := #[.int .i64 0, .int .i64 0, .int .u8 0]) ?_ 0 _ rfl; (with_reducible repeat (first | refine blk_drewN ?_ _ | refine blk_drew ?_ | refine blk_alloc ?_ _)); exact BK385.out⟩, ⟨by repeat (first | (with_reducible first | exact HB.out | apply below_alloc | apply pw_below_drewN | apply below_drew1 | refine below_set ?_ GE371.out | refine below_set ?_ GE376.out | refine below_set ?_ GE385.out) | exact HB.out)⟩⟩
                    · rw [if_neg c37] at H
                      have c37b0 : decide (x15_1 < (wrap64 (a2))) = false := decide_eq_false c37
                      clear c37
                      have H' := Aside0.mk H
                      clear H
                      have hnb47 := NB371_376.out
                      have hnc47 := NB376_371.out
                      have hnb48 := NB371_385.out
                      have hnc48 := NB385_371.out
                      have hcz49_0 : w26.cell? ⟨gb371, 0, none⟩ = some (.int .i64 t367) := (blk_cell BK371.out 0).trans rfl
                      have hcz49_1 : w26.cell? ⟨gb371, 1, none⟩ = some (.int .i64 t368) := (blk_cell BK371.out 1).trans rfl
                      have hcz49_2 : w26.cell? ⟨gb371, 2, none⟩ = some (.int .u8 t369) := (blk_cell BK371.out 2).trans rfl
                      have hfz49_0 := blk_frozen BK371.out 0
                      have hfz49_1 := blk_frozen BK371.out 1
                      have hfz49_2 := blk_frozen BK371.out 2
                      go_wp2
                      go_meet
                      case rel => exact ⟨_, (false), (by first | rfl | (simp; done) | (simp [*]; done)), H', ⟨by have := HK1.out; first | omega | exact Nat.le_refl _⟩, ⟨by (with_reducible repeat (first | apply Kd.R_alloc | apply Kd.R_drewN | apply Kd.R_drew)); exact Kd.R_mono (Kd.R_far (p := ⟨gb385, 2, none⟩) (Kd.R_far (p := ⟨gb385, 1, none⟩) (Kd.R_far (p := ⟨gb385, 0, none⟩) (Kd.R_mono HO_9.out (fun k_ hk => (⟨hk, hk.2⟩ : _ ∧ k_ ≠ gb385))) (fun _ hk => hk.2) (.int .i64 t381)) (fun _ hk => hk.2) (.int .i64 t382)) (fun _ hk => hk.2) (.int .u8 t383)) (fun _ hk => ⟨hk.1.1.1, ⟨hk.1.1.2, hk.1.2⟩⟩)⟩, ⟨by (with_reducible repeat (first | refine blk_drewN ?_ _ | refine blk_drew ?_ | refine blk_alloc ?_ _)); refine blk_far ?_ NB371_385.out _; (with_reducible repeat (first | refine blk_drewN ?_ _ | refine blk_drew ?_ | refine blk_alloc ?_ _)); refine blk_far ?_ NB371_385.out _; (with_reducible repeat (first | refine blk_drewN ?_ _ | refine blk_drew ?_ | refine blk_alloc ?_ _)); refine blk_far ?_ NB371_385.out _; (with_reducible repeat (first | refine blk_drewN ?_ _ | refine blk_drew ?_ | refine blk_alloc ?_ _)); exact BK371.out⟩, ⟨by (with_reducible repeat (first | refine blk_drewN ?_ _ | refine blk_drew ?_ | refine blk_alloc ?_ _)); refine blk_far ?_ NB376_385.out _; (with_reducible repeat (first | refine blk_drewN ?_ _ | refine blk_drew ?_ | refine blk_alloc ?_ _)); refine blk_far ?_ NB376_385.out _; (with_reducible repeat (first | refine blk_drewN ?_ _ | refine blk_drew ?_ | refine blk_alloc ?_ _)); refine blk_far ?_ NB376_385.out _; (with_reducible repeat (first | refine blk_drewN ?_ _ | refine blk_drew ?_ | refine blk_alloc ?_ _)); exact BK376.out⟩, ⟨by (with_reducible repeat (first | refine blk_drewN ?_ _ | refine blk_drew ?_ | refine blk_alloc ?_ _)); refine blk_put (cs := #[.int .i64 t381, .int .i64 t382, .int .u8 0]) ?_ 2 _ rfl; (with_reducible repeat (first | refine blk_drewN ?_ _ | refine blk_drew ?_ | refine blk_alloc ?_ _)); refine blk_put (cs := #[.int .i64 t381, .int .i64 0, .int .u8 0]) ?_ 1 _ rfl; (with_reducible repeat (first | refine blk_drewN ?_ _ | refine blk_drew ?_ | refine blk_alloc ?_ _)); refine blk_put (cs := #[.int .i64 0, .int .i64 0, .int .u8 0]) ?_ 0 _ rfl; (with_reducible repeat (first | refine blk_drewN ?_ _ | refine blk_drew ?_ | refine blk_alloc ?_ _)); exact BK385.out⟩, ⟨by repeat (first | (with_reducible first | exact HB.out | apply below_alloc | apply pw_below_drewN | apply below_drew1 | refine below_set ?_ GE371.out | refine below_set ?_ GE376.out | refine below_set ?_ GE385.out) | exact HB.out)⟩⟩
                · replace c32 := Bool.eq_false_iff.mpr c32
                  subst c32
                  have H1 : (salvorlaw16_RegionEnds.j1 k1 a0 a2 t363 t366 false t375 x15_1 (t383 == t366) true t367 t368 t369 t372 t373 t374) = some r := by rw [if_neg (show ¬ (false = true) by decide)] at H; exact H
                  clear H
                  have H := H1
                  clear H1
                  have H' := Aside0.mk H
                  clear H
                  go_wp2
                  go_meet
                  case rel => exact ⟨_, (true), (by first | rfl | (simp; done) | (simp [*]; done)), H', ⟨by have := HK1.out; first | omega | exact Nat.le_refl _⟩, ⟨by (with_reducible repeat (first | apply Kd.R_alloc | apply Kd.R_drewN | apply Kd.R_drew)); exact Kd.R_mono (Kd.R_far (p := ⟨gb385, 2, none⟩) (Kd.R_far (p := ⟨gb385, 1, none⟩) (Kd.R_far (p := ⟨gb385, 0, none⟩) (Kd.R_mono HO_9.out (fun k_ hk => (⟨hk, hk.2⟩ : _ ∧ k_ ≠ gb385))) (fun _ hk => hk.2) (.int .i64 t381)) (fun _ hk => hk.2) (.int .i64 t382)) (fun _ hk => hk.2) (.int .u8 t383)) (fun _ hk => ⟨hk.1.1.1, ⟨hk.1.1.2, hk.1.2⟩⟩)⟩, ⟨by (with_reducible repeat (first | refine blk_drewN ?_ _ | refine blk_drew ?_ | refine blk_alloc ?_ _)); refine blk_far ?_ NB371_385.out _; (with_reducible repeat (first | refine blk_drewN ?_ _ | refine blk_drew ?_ | refine blk_alloc ?_ _)); refine blk_far ?_ NB371_385.out _; (with_reducible repeat (first | refine blk_drewN ?_ _ | refine blk_drew ?_ | refine blk_alloc ?_ _)); refine blk_far ?_ NB371_385.out _; (with_reducible repeat (first | refine blk_drewN ?_ _ | refine blk_drew ?_ | refine blk_alloc ?_ _)); exact BK371.out⟩, ⟨by (with_reducible repeat (first | refine blk_drewN ?_ _ | refine blk_drew ?_ | refine blk_alloc ?_ _)); refine blk_far ?_ NB376_385.out _; (with_reducible repeat (first | refine blk_drewN ?_ _ | refine blk_drew ?_ | refine blk_alloc ?_ _)); refine blk_far ?_ NB376_385.out _; (with_reducible repeat (first | refine blk_drewN ?_ _ | refine blk_drew ?_ | refine blk_alloc ?_ _)); refine blk_far ?_ NB376_385.out _; (with_reducible repeat (first | refine blk_drewN ?_ _ | refine blk_drew ?_ | refine blk_alloc ?_ _)); exact BK376.out⟩, ⟨by (with_reducible repeat (first | refine blk_drewN ?_ _ | refine blk_drew ?_ | refine blk_alloc ?_ _)); refine blk_put (cs := #[.int .i64 t381, .int .i64 t382, .int .u8 0]) ?_ 2 _ rfl; (with_reducible repeat (first | refine blk_drewN ?_ _ | refine blk_drew ?_ | refine blk_alloc ?_ _)); refine blk_put (cs := #[.int .i64 t381, .int .i64 0, .int .u8 0]) ?_ 1 _ rfl; (with_reducible repeat (first | refine blk_drewN ?_ _ | refine blk_drew ?_ | refine blk_alloc ?_ _)); refine blk_put (cs := #[.int .i64 0, .int .i64 0, .int .u8 0]) ?_ 0 _ rfl; (with_reducible repeat (first | refine blk_drewN ?_ _ | refine blk_drew ?_ | refine blk_alloc ?_ _)); exact BK385.out⟩, ⟨by repeat (first | (with_reducible first | exact HB.out | apply below_alloc | apply pw_below_drewN | apply below_drew1 | refine below_set ?_ GE371.out | refine below_set ?_ GE376.out | refine below_set ?_ GE385.out) | exact HB.out)⟩⟩
              · rw [if_neg c31] at H
                have c31b0 : (t383 == t366) = false := beq_eq_false_iff_ne.mpr c31
                have c31b1 : (t383 != t366) = true := bne_iff_ne.mpr c31
                by_cases c50 : x15_1 < (wrap64 (a2))
                · rw [if_pos c50] at H
                  have c50b0 : decide (x15_1 < (wrap64 (a2))) = true := decide_eq_true c50
                  clear c50
                  have H' := Aside0.mk H
                  clear H
                  go_wp2
                  go_meet
                  case rel => exact ⟨_, (false), (by first | rfl | (simp; done) | (simp [*]; done)), H', ⟨by have := HK1.out; first | omega | exact Nat.le_refl _⟩, ⟨by (with_reducible repeat (first | apply Kd.R_alloc | apply Kd.R_drewN | apply Kd.R_drew)); exact Kd.R_mono (Kd.R_far (p := ⟨gb385, 2, none⟩) (Kd.R_far (p := ⟨gb385, 1, none⟩) (Kd.R_far (p := ⟨gb385, 0, none⟩) (Kd.R_mono HO_9.out (fun k_ hk => (⟨hk, hk.2⟩ : _ ∧ k_ ≠ gb385))) (fun _ hk => hk.2) (.int .i64 t381)) (fun _ hk => hk.2) (.int .i64 t382)) (fun _ hk => hk.2) (.int .u8 t383)) (fun _ hk => ⟨hk.1.1.1, ⟨hk.1.1.2, hk.1.2⟩⟩)⟩, ⟨by (with_reducible repeat (first | refine blk_drewN ?_ _ | refine blk_drew ?_ | refine blk_alloc ?_ _)); refine blk_far ?_ NB371_385.out _; (with_reducible repeat (first | refine blk_drewN ?_ _ | refine blk_drew ?_ | refine blk_alloc ?_ _)); refine blk_far ?_ NB371_385.out _; (with_reducible repeat (first | refine blk_drewN ?_ _ | refine blk_drew ?_ | refine blk_alloc ?_ _)); refine blk_far ?_ NB371_385.out _; (with_reducible repeat (first | refine blk_drewN ?_ _ | refine blk_drew ?_ | refine blk_alloc ?_ _)); exact BK371.out⟩, ⟨by (with_reducible repeat (first | refine blk_drewN ?_ _ | refine blk_drew ?_ | refine blk_alloc ?_ _)); refine blk_far ?_ NB376_385.out _; (with_reducible repeat (first | refine blk_drewN ?_ _ | refine blk_drew ?_ | refine blk_alloc ?_ _)); refine blk_far ?_ NB376_385.out _; (with_reducible repeat (first | refine blk_drewN ?_ _ | refine blk_drew ?_ | refine blk_alloc ?_ _)); refine blk_far ?_ NB376_385.out _; (with_reducible repeat (first | refine blk_drewN ?_ _ | refine blk_drew ?_ | refine blk_alloc ?_ _)); exact BK376.out⟩, ⟨by (with_reducible repeat (first | refine blk_drewN ?_ _ | refine blk_drew ?_ | refine blk_alloc ?_ _)); refine blk_put (cs := #[.int .i64 t381, .int .i64 t382, .int .u8 0]) ?_ 2 _ rfl; (with_reducible repeat (first | refine blk_drewN ?_ _ | refine blk_drew ?_ | refine blk_alloc ?_ _)); refine blk_put (cs := #[.int .i64 t381, .int .i64 0, .int .u8 0]) ?_ 1 _ rfl; (with_reducible repeat (first | refine blk_drewN ?_ _ | refine blk_drew ?_ | refine blk_alloc ?_ _)); refine blk_put (cs := #[.int .i64 0, .int .i64 0, .int .u8 0]) ?_ 0 _ rfl; (with_reducible repeat (first | refine blk_drewN ?_ _ | refine blk_drew ?_ | refine blk_alloc ?_ _)); exact BK385.out⟩, ⟨by repeat (first | (with_reducible first | exact HB.out | apply below_alloc | apply pw_below_drewN | apply below_drew1 | refine below_set ?_ GE371.out | refine below_set ?_ GE376.out | refine below_set ?_ GE385.out) | exact HB.out)⟩⟩
                · rw [if_neg c50] at H
                  have c50b0 : decide (x15_1 < (wrap64 (a2))) = false := decide_eq_false c50
                  clear c50
                  have H' := Aside0.mk H
                  clear H
                  go_wp2
                  go_meet
                  case rel => exact ⟨_, (false), (by first | rfl | (simp; done) | (simp [*]; done)), H', ⟨by have := HK1.out; first | omega | exact Nat.le_refl _⟩, ⟨by (with_reducible repeat (first | apply Kd.R_alloc | apply Kd.R_drewN | apply Kd.R_drew)); exact Kd.R_mono (Kd.R_far (p := ⟨gb385, 2, none⟩) (Kd.R_far (p := ⟨gb385, 1, none⟩) (Kd.R_far (p := ⟨gb385, 0, none⟩) (Kd.R_mono HO_9.out (fun k_ hk => (⟨hk, hk.2⟩ : _ ∧ k_ ≠ gb385))) (fun _ hk => hk.2) (.int .i64 t381)) (fun _ hk => hk.2) (.int .i64 t382)) (fun _ hk => hk.2) (.int .u8 t383)) (fun _ hk => ⟨hk.1.1.1, ⟨hk.1.1.2, hk.1.2⟩⟩)⟩, ⟨by (with_reducible repeat (first | refine blk_drewN ?_ _ | refine blk_drew ?_ | refine blk_alloc ?_ _)); refine blk_far ?_ NB371_385.out _; (with_reducible repeat (first | refine blk_drewN ?_ _ | refine blk_drew ?_ | refine blk_alloc ?_ _)); refine blk_far ?_ NB371_385.out _; (with_reducible repeat (first | refine blk_drewN ?_ _ | refine blk_drew ?_ | refine blk_alloc ?_ _)); refine blk_far ?_ NB371_385.out _; (with_reducible repeat (first | refine blk_drewN ?_ _ | refine blk_drew ?_ | refine blk_alloc ?_ _)); exact BK371.out⟩, ⟨by (with_reducible repeat (first | refine blk_drewN ?_ _ | refine blk_drew ?_ | refine blk_alloc ?_ _)); refine blk_far ?_ NB376_385.out _; (with_reducible repeat (first | refine blk_drewN ?_ _ | refine blk_drew ?_ | refine blk_alloc ?_ _)); refine blk_far ?_ NB376_385.out _; (with_reducible repeat (first | refine blk_drewN ?_ _ | refine blk_drew ?_ | refine blk_alloc ?_ _)); refine blk_far ?_ NB376_385.out _; (with_reducible repeat (first | refine blk_drewN ?_ _ | refine blk_drew ?_ | refine blk_alloc ?_ _)); exact BK376.out⟩, ⟨by (with_reducible repeat (first | refine blk_drewN ?_ _ | refine blk_drew ?_ | refine blk_alloc ?_ _)); refine blk_put (cs := #[.int .i64 t381, .int .i64 t382, .int .u8 0]) ?_ 2 _ rfl; (with_reducible repeat (first | refine blk_drewN ?_ _ | refine blk_drew ?_ | refine blk_alloc ?_ _)); refine blk_put (cs := #[.int .i64 t381, .int .i64 0, .int .u8 0]) ?_ 1 _ rfl; (with_reducible repeat (first | refine blk_drewN ?_ _ | refine blk_drew ?_ | refine blk_alloc ?_ _)); refine blk_put (cs := #[.int .i64 0, .int .i64 0, .int .u8 0]) ?_ 0 _ rfl; (with_reducible repeat (first | refine blk_drewN ?_ _ | refine blk_drew ?_ | refine blk_alloc ?_ _)); exact BK385.out⟩, ⟨by repeat (first | (with_reducible first | exact HB.out | apply below_alloc | apply pw_below_drewN | apply below_drew1 | refine below_set ?_ GE371.out | refine below_set ?_ GE376.out | refine below_set ?_ GE385.out) | exact HB.out)⟩⟩
            · rw [if_neg c30] at H
              have c30b0 : decide ((wrap64 (a2)) ≤ x15_1) = false := decide_eq_false c30
              clear c30
              (first | rw [c30b0] | (simp only [i64_w, i32_w]; rw [c30b0]) | skip)
              by_cases c51 : x15_1 < (wrap64 (a2))
              · rw [if_pos c51] at H
                have c51b0 : decide (x15_1 < (wrap64 (a2))) = true := decide_eq_true c51
                clear c51
                by_cases c52 : t383 = t366
                · rw [if_pos c52] at H
                  have c52b0 : (t383 == t366) = true := beq_iff_eq.mpr c52
                  have c52b1 : (t383 != t366) = false := bne_eq_false_iff_eq.mpr c52
                  clear c52
                  by_cases c53 : t375 = true
                  · subst c53
                    have H1 : (salvorlaw16_RegionEnds.j1 k1 a0 a2 t363 t366 t370 true x15_1 (t383 == t366) (decide (x15_1 ≥ (wrap64 (t372 + t373)))) t367 t368 t369 t372 t373 t374) = some r := by rw [if_pos rfl] at H; exact H
                    clear H
                    have H := H1
                    clear H1
                    have H' := Aside0.mk H
                    clear H
                    have hnb54 := NB376_371.out
                    have hnc54 := NB371_376.out
                    have hnb55 := NB376_385.out
                    have hnc55 := NB385_376.out
                    have hcz56_0 : w26.cell? ⟨gb376, 0, none⟩ = some (.int .i64 t372) := (blk_cell BK376.out 0).trans rfl
                    have hcz56_1 : w26.cell? ⟨gb376, 1, none⟩ = some (.int .i64 t373) := (blk_cell BK376.out 1).trans rfl
                    have hcz56_2 : w26.cell? ⟨gb376, 2, none⟩ = some (.int .u8 t374) := (blk_cell BK376.out 2).trans rfl
                    have hfz56_0 := blk_frozen BK376.out 0
                    have hfz56_1 := blk_frozen BK376.out 1
                    have hfz56_2 := blk_frozen BK376.out 2
                    go_wp2
                    go_meet
                    case rel => exact ⟨_, (decide (x15_1 ≥ (wrap64 (t372 + t373)))), (by first | rfl | (simp; done) | (simp [*]; done)), H', ⟨by have := HK1.out; first | omega | exact Nat.le_refl _⟩, ⟨by (with_reducible repeat (first | apply Kd.R_alloc | apply Kd.R_drewN | apply Kd.R_drew)); exact Kd.R_mono (Kd.R_far (p := ⟨gb385, 2, none⟩) (Kd.R_far (p := ⟨gb385, 1, none⟩) (Kd.R_far (p := ⟨gb385, 0, none⟩) (Kd.R_mono HO_9.out (fun k_ hk => (⟨hk, hk.2⟩ : _ ∧ k_ ≠ gb385))) (fun _ hk => hk.2) (.int .i64 t381)) (fun _ hk => hk.2) (.int .i64 t382)) (fun _ hk => hk.2) (.int .u8 t383)) (fun _ hk => ⟨hk.1.1.1, ⟨hk.1.1.2, hk.1.2⟩⟩)⟩, ⟨by (with_reducible repeat (first | refine blk_drewN ?_ _ | refine blk_drew ?_ | refine blk_alloc ?_ _)); refine blk_far ?_ NB371_385.out _; (with_reducible repeat (first | refine blk_drewN ?_ _ | refine blk_drew ?_ | refine blk_alloc ?_ _)); refine blk_far ?_ NB371_385.out _; (with_reducible repeat (first | refine blk_drewN ?_ _ | refine blk_drew ?_ | refine blk_alloc ?_ _)); refine blk_far ?_ NB371_385.out _; (with_reducible repeat (first | refine blk_drewN ?_ _ | refine blk_drew ?_ | refine blk_alloc ?_ _)); exact BK371.out⟩, ⟨by (with_reducible repeat (first | refine blk_drewN ?_ _ | refine blk_drew ?_ | refine blk_alloc ?_ _)); refine blk_far ?_ NB376_385.out _; (with_reducible repeat (first | refine blk_drewN ?_ _ | refine blk_drew ?_ | refine blk_alloc ?_ _)); refine blk_far ?_ NB376_385.out _; (with_reducible repeat (first | refine blk_drewN ?_ _ | refine blk_drew ?_ | refine blk_alloc ?_ _)); refine blk_far ?_ NB376_385.out _; (with_reducible repeat (first | refine blk_drewN ?_ _ | refine blk_drew ?_ | refine blk_alloc ?_ _)); exact BK376.out⟩, ⟨by (with_reducible repeat (first | refine blk_drewN ?_ _ | refine blk_drew ?_ | refine blk_alloc ?_ _)); refine blk_put (cs := #[.int .i64 t381, .int .i64 t382, .int .u8 0]) ?_ 2 _ rfl; (with_reducible repeat (first | refine blk_drewN ?_ _ | refine blk_drew ?_ | refine blk_alloc ?_ _)); refine blk_put (cs := #[.int .i64 t381, .int .i64 0, .int .u8 0]) ?_ 1 _ rfl; (with_reducible repeat (first | refine blk_drewN ?_ _ | refine blk_drew ?_ | refine blk_alloc ?_ _)); refine blk_put (cs := #[.int .i64 0, .int .i64 0, .int .u8 0]) ?_ 0 _ rfl; (with_reducible repeat (first | refine blk_drewN ?_ _ | refine blk_drew ?_ | refine blk_alloc ?_ _)); exact BK385.out⟩, ⟨by repeat (first | (with_reducible first | exact HB.out | apply below_alloc | apply pw_below_drewN | apply below_drew1 | refine below_set ?_ GE371.out | refine below_set ?_ GE376.out | refine below_set ?_ GE385.out) | exact HB.out)⟩⟩
                  · replace c53 := Bool.eq_false_iff.mpr c53
                    subst c53
                    have H1 : (salvorlaw16_RegionEnds.j1 k1 a0 a2 t363 t366 t370 false x15_1 (t383 == t366) true t367 t368 t369 t372 t373 t374) = some r := by rw [if_neg (show ¬ (false = true) by decide)] at H; exact H
                    clear H
                    have H := H1
                    clear H1
                    have H' := Aside0.mk H
                    clear H
                    go_wp2
                    go_meet
                    case rel => exact ⟨_, (true), (by first | rfl | (simp; done) | (simp [*]; done)), H', ⟨by have := HK1.out; first | omega | exact Nat.le_refl _⟩, ⟨by (with_reducible repeat (first | apply Kd.R_alloc | apply Kd.R_drewN | apply Kd.R_drew)); exact Kd.R_mono (Kd.R_far (p := ⟨gb385, 2, none⟩) (Kd.R_far (p := ⟨gb385, 1, none⟩) (Kd.R_far (p := ⟨gb385, 0, none⟩) (Kd.R_mono HO_9.out (fun k_ hk => (⟨hk, hk.2⟩ : _ ∧ k_ ≠ gb385))) (fun _ hk => hk.2) (.int .i64 t381)) (fun _ hk => hk.2) (.int .i64 t382)) (fun _ hk => hk.2) (.int .u8 t383)) (fun _ hk => ⟨hk.1.1.1, ⟨hk.1.1.2, hk.1.2⟩⟩)⟩, ⟨by (with_reducible repeat (first | refine blk_drewN ?_ _ | refine blk_drew ?_ | refine blk_alloc ?_ _)); refine blk_far ?_ NB371_385.out _; (with_reducible repeat (first | refine blk_drewN ?_ _ | refine blk_drew ?_ | refine blk_alloc ?_ _)); refine blk_far ?_ NB371_385.out _; (with_reducible repeat (first | refine blk_drewN ?_ _ | refine blk_drew ?_ | refine blk_alloc ?_ _)); refine blk_far ?_ NB371_385.out _; (with_reducible repeat (first | refine blk_drewN ?_ _ | refine blk_drew ?_ | refine blk_alloc ?_ _)); exact BK371.out⟩, ⟨by (with_reducible repeat (first | refine blk_drewN ?_ _ | refine blk_drew ?_ | refine blk_alloc ?_ _)); refine blk_far ?_ NB376_385.out _; (with_reducible repeat (first | refine blk_drewN ?_ _ | refine blk_drew ?_ | refine blk_alloc ?_ _)); refine blk_far ?_ NB376_385.out _; (with_reducible repeat (first | refine blk_drewN ?_ _ | refine blk_drew ?_ | refine blk_alloc ?_ _)); refine blk_far ?_ NB376_385.out _; (with_reducible repeat (first | refine blk_drewN ?_ _ | refine blk_drew ?_ | refine blk_alloc ?_ _)); exact BK376.out⟩, ⟨by (with_reducible repeat (first | refine blk_drewN ?_ _ | refine blk_drew ?_ | refine blk_alloc ?_ _)); refine blk_put (cs := #[.int .i64 t381, .int .i64 t382, .int .u8 0]) ?_ 2 _ rfl; (with_reducible repeat (first | refine blk_drewN ?_ _ | refine blk_drew ?_ | refine blk_alloc ?_ _)); refine blk_put (cs := #[.int .i64 t381, .int .i64 0, .int .u8 0]) ?_ 1 _ rfl; (with_reducible repeat (first | refine blk_drewN ?_ _ | refine blk_drew ?_ | refine blk_alloc ?_ _)); refine blk_put (cs := #[.int .i64 0, .int .i64 0, .int .u8 0]) ?_ 0 _ rfl; (with_reducible repeat (first | refine blk_drewN ?_ _ | refine blk_drew ?_ | refine blk_alloc ?_ _)); exact BK385.out⟩, ⟨by repeat (first | (with_reducible first | exact HB.out | apply below_alloc | apply pw_below_drewN | apply below_drew1 | refine below_set ?_ GE371.out | refine below_set ?_ GE376.out | refine below_set ?_ GE385.out) | exact HB.out)⟩⟩
                · rw [if_neg c52] at H
                  have c52b0 : (t383 == t366) = false := beq_eq_false_iff_ne.mpr c52
                  have c52b1 : (t383 != t366) = true := bne_iff_ne.mpr c52
                  have H' := Aside0.mk H
                  clear H
                  go_wp2
                  go_meet
                  case rel => exact ⟨_, (false), (by first | rfl | (simp; done) | (simp [*]; done)), H', ⟨by have := HK1.out; first | omega | exact Nat.le_refl _⟩, ⟨by (with_reducible repeat (first | apply Kd.R_alloc | apply Kd.R_drewN | apply Kd.R_drew)); exact Kd.R_mono (Kd.R_far (p := ⟨gb385, 2, none⟩) (Kd.R_far (p := ⟨gb385, 1, none⟩) (Kd.R_far (p := ⟨gb385, 0, none⟩) (Kd.R_mono HO_9.out (fun k_ hk => (⟨hk, hk.2⟩ : _ ∧ k_ ≠ gb385))) (fun _ hk => hk.2) (.int .i64 t381)) (fun _ hk => hk.2) (.int .i64 t382)) (fun _ hk => hk.2) (.int .u8 t383)) (fun _ hk => ⟨hk.1.1.1, ⟨hk.1.1.2, hk.1.2⟩⟩)⟩, ⟨by (with_reducible repeat (first | refine blk_drewN ?_ _ | refine blk_drew ?_ | refine blk_alloc ?_ _)); refine blk_far ?_ NB371_385.out _; (with_reducible repeat (first | refine blk_drewN ?_ _ | refine blk_drew ?_ | refine blk_alloc ?_ _)); refine blk_far ?_ NB371_385.out _; (with_reducible repeat (first | refine blk_drewN ?_ _ | refine blk_drew ?_ | refine blk_alloc ?_ _)); refine blk_far ?_ NB371_385.out _; (with_reducible repeat (first | refine blk_drewN ?_ _ | refine blk_drew ?_ | refine blk_alloc ?_ _)); exact BK371.out⟩, ⟨by (with_reducible repeat (first | refine blk_drewN ?_ _ | refine blk_drew ?_ | refine blk_alloc ?_ _)); refine blk_far ?_ NB376_385.out _; (with_reducible repeat (first | refine blk_drewN ?_ _ | refine blk_drew ?_ | refine blk_alloc ?_ _)); refine blk_far ?_ NB376_385.out _; (with_reducible repeat (first | refine blk_drewN ?_ _ | refine blk_drew ?_ | refine blk_alloc ?_ _)); refine blk_far ?_ NB376_385.out _; (with_reducible repeat (first | refine blk_drewN ?_ _ | refine blk_drew ?_ | refine blk_alloc ?_ _)); exact BK376.out⟩, ⟨by (with_reducible repeat (first | refine blk_drewN ?_ _ | refine blk_drew ?_ | refine blk_alloc ?_ _)); refine blk_put (cs := #[.int .i64 t381, .int .i64 t382, .int .u8 0]) ?_ 2 _ rfl; (with_reducible repeat (first | refine blk_drewN ?_ _ | refine blk_drew ?_ | refine blk_alloc ?_ _)); refine blk_put (cs := #[.int .i64 t381, .int .i64 0, .int .u8 0]) ?_ 1 _ rfl; (with_reducible repeat (first | refine blk_drewN ?_ _ | refine blk_drew ?_ | refine blk_alloc ?_ _)); refine blk_put (cs := #[.int .i64 0, .int .i64 0, .int .u8 0]) ?_ 0 _ rfl; (with_reducible repeat (first | refine blk_drewN ?_ _ | refine blk_drew ?_ | refine blk_alloc ?_ _)); exact BK385.out⟩, ⟨by repeat (first | (with_reducible first | exact HB.out | apply below_alloc | apply pw_below_drewN | apply below_drew1 | refine below_set ?_ GE371.out | refine below_set ?_ GE376.out | refine below_set ?_ GE385.out) | exact HB.out)⟩⟩
              · rw [if_neg c51] at H
                have c51b0 : decide (x15_1 < (wrap64 (a2))) = false := decide_eq_false c51
                clear c51
                have H' := Aside0.mk H
                clear H
                go_wp2
                go_meet
                case rel => exact ⟨_, (false), (by first | rfl | (simp; done) | (simp [*]; done)), H', ⟨by have := HK1.out; first | omega | exact Nat.le_refl _⟩, ⟨by (with_reducible repeat (first | apply Kd.R_alloc | apply Kd.R_drewN | apply Kd.R_drew)); exact Kd.R_mono (Kd.R_far (p := ⟨gb385, 2, none⟩) (Kd.R_far (p := ⟨gb385, 1, none⟩) (Kd.R_far (p := ⟨gb385, 0, none⟩) (Kd.R_mono HO_9.out (fun k_ hk => (⟨hk, hk.2⟩ : _ ∧ k_ ≠ gb385))) (fun _ hk => hk.2) (.int .i64 t381)) (fun _ hk => hk.2) (.int .i64 t382)) (fun _ hk => hk.2) (.int .u8 t383)) (fun _ hk => ⟨hk.1.1.1, ⟨hk.1.1.2, hk.1.2⟩⟩)⟩, ⟨by (with_reducible repeat (first | refine blk_drewN ?_ _ | refine blk_drew ?_ | refine blk_alloc ?_ _)); refine blk_far ?_ NB371_385.out _; (with_reducible repeat (first | refine blk_drewN ?_ _ | refine blk_drew ?_ | refine blk_alloc ?_ _)); refine blk_far ?_ NB371_385.out _; (with_reducible repeat (first | refine blk_drewN ?_ _ | refine blk_drew ?_ | refine blk_alloc ?_ _)); refine blk_far ?_ NB371_385.out _; (with_reducible repeat (first | refine blk_drewN ?_ _ | refine blk_drew ?_ | refine blk_alloc ?_ _)); exact BK371.out⟩, ⟨by (with_reducible repeat (first | refine blk_drewN ?_ _ | refine blk_drew ?_ | refine blk_alloc ?_ _)); refine blk_far ?_ NB376_385.out _; (with_reducible repeat (first | refine blk_drewN ?_ _ | refine blk_drew ?_ | refine blk_alloc ?_ _)); refine blk_far ?_ NB376_385.out _; (with_reducible repeat (first | refine blk_drewN ?_ _ | refine blk_drew ?_ | refine blk_alloc ?_ _)); refine blk_far ?_ NB376_385.out _; (with_reducible repeat (first | refine blk_drewN ?_ _ | refine blk_drew ?_ | refine blk_alloc ?_ _)); exact BK376.out⟩, ⟨by (with_reducible repeat (first | refine blk_drewN ?_ _ | refine blk_drew ?_ | refine blk_alloc ?_ _)); refine blk_put (cs := #[.int .i64 t381, .int .i64 t382, .int .u8 0]) ?_ 2 _ rfl; (with_reducible repeat (first | refine blk_drewN ?_ _ | refine blk_drew ?_ | refine blk_alloc ?_ _)); refine blk_put (cs := #[.int .i64 t381, .int .i64 0, .int .u8 0]) ?_ 1 _ rfl; (with_reducible repeat (first | refine blk_drewN ?_ _ | refine blk_drew ?_ | refine blk_alloc ?_ _)); refine blk_put (cs := #[.int .i64 0, .int .i64 0, .int .u8 0]) ?_ 0 _ rfl; (with_reducible repeat (first | refine blk_drewN ?_ _ | refine blk_drew ?_ | refine blk_alloc ?_ _)); exact BK385.out⟩, ⟨by repeat (first | (with_reducible first | exact HB.out | apply below_alloc | apply pw_below_drewN | apply below_drew1 | refine below_set ?_ GE371.out | refine below_set ?_ GE376.out | refine below_set ?_ GE385.out) | exact HB.out)⟩⟩
          case rest =>
            clear HC24
            try clear c1
            try clear c2
            try clear p2
            try clear c3
            try clear c4
            try clear c5
            try clear c5b0
            try clear c5b1
            try clear p6
            try clear c9
            try clear c12
            try clear c13
            try clear c20
            try clear c22
            try clear c22b0
            try clear c23
            try clear c24
            try clear c25
            try clear c27
            try clear c28
            try clear c30
            try clear c30b0
            try clear c31
            try clear c31b0
            try clear c31b1
            try clear c32
            try clear c33
            try clear c33b0
            try clear c34
            try clear c35
            try clear c37
            try clear c37b0
            try clear c38
            try clear c39
            try clear c40
            try clear c42
            try clear c44
            try clear c45
            try clear c47
            try clear c48
            try clear c50
            try clear c50b0
            try clear c51
            try clear c51b0
            try clear c52
            try clear c52b0
            try clear c52b1
            try clear c53
            try clear c54
            try clear c55
            try clear hcz17_0
            try clear hcz17_1
            try clear hcz17_2
            try clear hcz21_0
            try clear hcz21_1
            try clear hcz21_2
            try clear hcz29_0
            try clear hcz29_1
            try clear hcz29_2
            try clear hcz36_0
            try clear hcz36_1
            try clear hcz36_2
            try clear hcz41_0
            try clear hcz41_1
            try clear hcz41_2
            try clear hcz43_0
            try clear hcz43_1
            try clear hcz43_2
            try clear hcz46_0
            try clear hcz46_1
            try clear hcz46_2
            try clear hcz49_0
            try clear hcz49_1
            try clear hcz49_2
            try clear hcz56_0
            try clear hcz56_1
            try clear hcz56_2
            try clear hfz17_0
            try clear hfz17_1
            try clear hfz17_2
            try clear hfz21_0
            try clear hfz21_1
            try clear hfz21_2
            try clear hfz29_0
            try clear hfz29_1
            try clear hfz29_2
            try clear hfz36_0
            try clear hfz36_1
            try clear hfz36_2
            try clear hfz41_0
            try clear hfz41_1
            try clear hfz41_2
            try clear hfz43_0
            try clear hfz43_1
            try clear hfz43_2
            try clear hfz46_0
            try clear hfz46_1
            try clear hfz46_2
            try clear hfz49_0
            try clear hfz49_1
            try clear hfz49_2
            try clear hfz56_0
            try clear hfz56_1
            try clear hfz56_2
            try clear p2
            try clear p6
            obtain ⟨kq, x99_23, rfl, HA, HJ23, HO_9, BK371, BK376, BK385, HB⟩ := hcut
            cases kq with
            | zero => exact absurd HA.out (by simp [salvorlaw16_RegionEnds.j1])
            | succ kj23 =>
              have H := HA.out
              clear HA
              simp only [salvorlaw16_RegionEnds.j1] at H
              by_cases c57 : x99_23 = true
              · subst c57
                have H1 : (some false) = some r := by rw [if_pos rfl] at H; exact H
                clear H
                have H := H1
                clear H1
                exact absurd ((Option.some.inj H).trans HT.out) (by simp)
              · replace c57 := Bool.eq_false_iff.mpr c57
                subst c57
                have H1 : (if t370 = true then (if x15_1 ≥ t367 then (if x15_1 < (wrap64 (t367 + t368)) then (if (t383 == t366) = true then (if t375 = true then (if x15_1 ≥ t372 then (if x15_1 < (wrap64 (t372 + t373)) then (salvorlaw16_RegionEnds.l0 kj23 a0 a2 t363 t366 t370 t375 (wrap64 (x15_1 + 1)) t367 t368 t369 t372 t373 t374) else (salvorlaw16_RegionEnds.l0 kj23 a0 a2 t363 t366 t370 t375 (wrap64 (x15_1 + 1)) t367 t368 t369 t372 t373 t374)) else (salvorlaw16_RegionEnds.l0 kj23 a0 a2 t363 t366 t370 t375 (wrap64 (x15_1 + 1)) t367 t368 t369 t372 t373 t374)) else (salvorlaw16_RegionEnds.l0 kj23 a0 a2 t363 t366 t370 t375 (wrap64 (x15_1 + 1)) t367 t368 t369 t372 t373 t374)) else (some false)) else (if t375 = true then (if x15_1 ≥ t372 then (if x15_1 < (wrap64 (t372 + t373)) then (if (t383 == t366) = true then (salvorlaw16_RegionEnds.l0 kj23 a0 a2 t363 t366 t370 t375 (wrap64 (x15_1 + 1)) t367 t368 t369 t372 t373 t374) else (some false)) else (salvorlaw16_RegionEnds.l0 kj23 a0 a2 t363 t366 t370 t375 (wrap64 (x15_1 + 1)) t367 t368 t369 t372 t373 t374)) else (salvorlaw16_RegionEnds.l0 kj23 a0 a2 t363 t366 t370 t375 (wrap64 (x15_1 + 1)) t367 t368 t369 t372 t373 t374)) else (salvorlaw16_RegionEnds.l0 kj23 a0 a2 t363 t366 t370 t375 (wrap64 (x15_1 + 1)) t367 t368 t369 t372 t373 t374))) else (if t375 = true then (if x15_1 ≥ t372 then (if x15_1 < (wrap64 (t372 + t373)) then (if (t383 == t366) = true then (salvorlaw16_RegionEnds.l0 kj23 a0 a2 t363 t366 t370 t375 (wrap64 (x15_1 + 1)) t367 t368 t369 t372 t373 t374) else (some false)) else (salvorlaw16_RegionEnds.l0 kj23 a0 a2 t363 t366 t370 t375 (wrap64 (x15_1 + 1)) t367 t368 t369 t372 t373 t374)) else (salvorlaw16_RegionEnds.l0 kj23 a0 a2 t363 t366 t370 t375 (wrap64 (x15_1 + 1)) t367 t368 t369 t372 t373 t374)) else (salvorlaw16_RegionEnds.l0 kj23 a0 a2 t363 t366 t370 t375 (wrap64 (x15_1 + 1)) t367 t368 t369 t372 t373 t374))) else (if t375 = true then (if x15_1 ≥ t372 then (if x15_1 < (wrap64 (t372 + t373)) then (if (t383 == t366) = true then (salvorlaw16_RegionEnds.l0 kj23 a0 a2 t363 t366 t370 t375 (wrap64 (x15_1 + 1)) t367 t368 t369 t372 t373 t374) else (some false)) else (salvorlaw16_RegionEnds.l0 kj23 a0 a2 t363 t366 t370 t375 (wrap64 (x15_1 + 1)) t367 t368 t369 t372 t373 t374)) else (salvorlaw16_RegionEnds.l0 kj23 a0 a2 t363 t366 t370 t375 (wrap64 (x15_1 + 1)) t367 t368 t369 t372 t373 t374)) else (salvorlaw16_RegionEnds.l0 kj23 a0 a2 t363 t366 t370 t375 (wrap64 (x15_1 + 1)) t367 t368 t369 t372 t373 t374))) = some r := by rw [if_neg (show ¬ (false = true) by decide)] at H; exact H
                clear H
                have H := H1
                clear H1
                by_cases c58 : t370 = true
                · subst c58
                  have H1 : (if x15_1 ≥ t367 then (if x15_1 < (wrap64 (t367 + t368)) then (if (t383 == t366) = true then (if t375 = true then (if x15_1 ≥ t372 then (if x15_1 < (wrap64 (t372 + t373)) then (salvorlaw16_RegionEnds.l0 kj23 a0 a2 t363 t366 true t375 (wrap64 (x15_1 + 1)) t367 t368 t369 t372 t373 t374) else (salvorlaw16_RegionEnds.l0 kj23 a0 a2 t363 t366 true t375 (wrap64 (x15_1 + 1)) t367 t368 t369 t372 t373 t374)) else (salvorlaw16_RegionEnds.l0 kj23 a0 a2 t363 t366 true t375 (wrap64 (x15_1 + 1)) t367 t368 t369 t372 t373 t374)) else (salvorlaw16_RegionEnds.l0 kj23 a0 a2 t363 t366 true t375 (wrap64 (x15_1 + 1)) t367 t368 t369 t372 t373 t374)) else (some false)) else (if t375 = true then (if x15_1 ≥ t372 then (if x15_1 < (wrap64 (t372 + t373)) then (if (t383 == t366) = true then (salvorlaw16_RegionEnds.l0 kj23 a0 a2 t363 t366 true t375 (wrap64 (x15_1 + 1)) t367 t368 t369 t372 t373 t374) else (some false)) else (salvorlaw16_RegionEnds.l0 kj23 a0 a2 t363 t366 true t375 (wrap64 (x15_1 + 1)) t367 t368 t369 t372 t373 t374)) else (salvorlaw16_RegionEnds.l0 kj23 a0 a2 t363 t366 true t375 (wrap64 (x15_1 + 1)) t367 t368 t369 t372 t373 t374)) else (salvorlaw16_RegionEnds.l0 kj23 a0 a2 t363 t366 true t375 (wrap64 (x15_1 + 1)) t367 t368 t369 t372 t373 t374))) else (if t375 = true then (if x15_1 ≥ t372 then (if x15_1 < (wrap64 (t372 + t373)) then (if (t383 == t366) = true then (salvorlaw16_RegionEnds.l0 kj23 a0 a2 t363 t366 true t375 (wrap64 (x15_1 + 1)) t367 t368 t369 t372 t373 t374) else (some false)) else (salvorlaw16_RegionEnds.l0 kj23 a0 a2 t363 t366 true t375 (wrap64 (x15_1 + 1)) t367 t368 t369 t372 t373 t374)) else (salvorlaw16_RegionEnds.l0 kj23 a0 a2 t363 t366 true t375 (wrap64 (x15_1 + 1)) t367 t368 t369 t372 t373 t374)) else (salvorlaw16_RegionEnds.l0 kj23 a0 a2 t363 t366 true t375 (wrap64 (x15_1 + 1)) t367 t368 t369 t372 t373 t374))) = some r := by rw [if_pos rfl] at H; exact H
                  clear H
                  have H := H1
                  clear H1
                  by_cases c59 : x15_1 ≥ t367
                  · rw [if_pos c59] at H
                    have c59b0 : decide (t367 ≤ x15_1) = true := decide_eq_true c59
                    clear c59
                    by_cases c60 : x15_1 < (wrap64 (t367 + t368))
                    · rw [if_pos c60] at H
                      have c60b0 : decide (x15_1 < (wrap64 (t367 + t368))) = true := decide_eq_true c60
                      clear c60
                      by_cases c61 : (t383 == t366) = true
                      · rw [if_pos c61] at H
                        have c61b0 : (t383 == t366) = true := c61
                        (try (have c61b1 : decide (t383 = t366) = true := by simpa using c61))
                        (try (have c61b2 : (t383 == t366) = true := by simpa using c61))
                        clear c61
                        by_cases c62 : t375 = true
                        · subst c62
                          have H1 : (if x15_1 ≥ t372 then (if x15_1 < (wrap64 (t372 + t373)) then (salvorlaw16_RegionEnds.l0 kj23 a0 a2 t363 t366 true true (wrap64 (x15_1 + 1)) t367 t368 t369 t372 t373 t374) else (salvorlaw16_RegionEnds.l0 kj23 a0 a2 t363 t366 true true (wrap64 (x15_1 + 1)) t367 t368 t369 t372 t373 t374)) else (salvorlaw16_RegionEnds.l0 kj23 a0 a2 t363 t366 true true (wrap64 (x15_1 + 1)) t367 t368 t369 t372 t373 t374)) = some r := by rw [if_pos rfl] at H; exact H
                          clear H
                          have H := H1
                          clear H1
                          by_cases c63 : x15_1 ≥ t372
                          · rw [if_pos c63] at H
                            have c63b0 : decide (t372 ≤ x15_1) = true := decide_eq_true c63
                            clear c63
                            by_cases c64 : x15_1 < (wrap64 (t372 + t373))
                            · rw [if_pos c64] at H
                              have c64b0 : decide (x15_1 < (wrap64 (t372 + t373))) = true := decide_eq_true c64
                              clear c64
                              have H' := Aside0.mk H
                              clear H
                              have hnb65 := NB371_376.out
                              have hnc65 := NB376_371.out
                              have hnb66 := NB371_385.out
                              have hnc66 := NB385_371.out
                              have hcz67_0 : wc.cell? ⟨gb371, 0, none⟩ = some (.int .i64 t367) := (blk_cell BK371.out 0).trans rfl
                              have hcz67_1 : wc.cell? ⟨gb371, 1, none⟩ = some (.int .i64 t368) := (blk_cell BK371.out 1).trans rfl
                              have hcz67_2 : wc.cell? ⟨gb371, 2, none⟩ = some (.int .u8 t369) := (blk_cell BK371.out 2).trans rfl
                              have hfz67_0 := blk_frozen BK371.out 0
                              have hfz67_1 := blk_frozen BK371.out 1
                              have hfz67_2 := blk_frozen BK371.out 2
                              have hnb68 := NB376_385.out
                              have hnc68 := NB385_376.out
                              have hcz69_0 : wc.cell? ⟨gb376, 0, none⟩ = some (.int .i64 t372) := (blk_cell BK376.out 0).trans rfl
                              have hcz69_1 : wc.cell? ⟨gb376, 1, none⟩ = some (.int .i64 t373) := (blk_cell BK376.out 1).trans rfl
                              have hcz69_2 : wc.cell? ⟨gb376, 2, none⟩ = some (.int .u8 t374) := (blk_cell BK376.out 2).trans rfl
                              have hfz69_0 := blk_frozen BK376.out 0
                              have hfz69_1 := blk_frozen BK376.out 1
                              have hfz69_2 := blk_frozen BK376.out 2
                              go_wp2
                              go_roundg kj23
                              case measure => have := HK1.out; have := HJ23.out; omega
                              case rel => exact ⟨(wrap64 (x15_1 + 1)), (by first | rfl | (simp; done) | (simp [*]; done)), H', ⟨by have := HK1.out; have := HJ23.out; omega⟩, ⟨by (with_reducible repeat (first | apply Kd.R_alloc | apply Kd.R_drewN | apply Kd.R_drew)); exact Kd.R_mono HO_9.out (fun _ hk => ⟨hk.1, hk.2.1⟩)⟩, ⟨by (with_reducible repeat (first | refine blk_drewN ?_ _ | refine blk_drew ?_ | refine blk_alloc ?_ _)); exact BK371.out⟩, ⟨by (with_reducible repeat (first | refine blk_drewN ?_ _ | refine blk_drew ?_ | refine blk_alloc ?_ _)); exact BK376.out⟩, ⟨by repeat (first | (with_reducible first | exact HB.out | apply below_alloc | apply pw_below_drewN | apply below_drew1 | refine below_set ?_ GE371.out | refine below_set ?_ GE376.out | refine below_set ?_ GE385.out) | exact HB.out)⟩⟩
                            · rw [if_neg c64] at H
                              have c64b0 : decide (x15_1 < (wrap64 (t372 + t373))) = false := decide_eq_false c64
                              clear c64
                              have H' := Aside0.mk H
                              clear H
                              have hnb70 := NB371_376.out
                              have hnc70 := NB376_371.out
                              have hnb71 := NB371_385.out
                              have hnc71 := NB385_371.out
                              have hcz72_0 : wc.cell? ⟨gb371, 0, none⟩ = some (.int .i64 t367) := (blk_cell BK371.out 0).trans rfl
                              have hcz72_1 : wc.cell? ⟨gb371, 1, none⟩ = some (.int .i64 t368) := (blk_cell BK371.out 1).trans rfl
                              have hcz72_2 : wc.cell? ⟨gb371, 2, none⟩ = some (.int .u8 t369) := (blk_cell BK371.out 2).trans rfl
                              have hfz72_0 := blk_frozen BK371.out 0
                              have hfz72_1 := blk_frozen BK371.out 1
                              have hfz72_2 := blk_frozen BK371.out 2
                              have hnb73 := NB376_385.out
                              have hnc73 := NB385_376.out
                              have hcz74_0 : wc.cell? ⟨gb376, 0, none⟩ = some (.int .i64 t372) := (blk_cell BK376.out 0).trans rfl
                              have hcz74_1 : wc.cell? ⟨gb376, 1, none⟩ = some (.int .i64 t373) := (blk_cell BK376.out 1).trans rfl
                              have hcz74_2 : wc.cell? ⟨gb376, 2, none⟩ = some (.int .u8 t374) := (blk_cell BK376.out 2).trans rfl
                              have hfz74_0 := blk_frozen BK376.out 0
                              have hfz74_1 := blk_frozen BK376.out 1
                              have hfz74_2 := blk_frozen BK376.out 2
                              go_wp2
                              go_roundg kj23
                              case measure => have := HK1.out; have := HJ23.out; omega
                              case rel => exact ⟨(wrap64 (x15_1 + 1)), (by first | rfl | (simp; done) | (simp [*]; done)), H', ⟨by have := HK1.out; have := HJ23.out; omega⟩, ⟨by (with_reducible repeat (first | apply Kd.R_alloc | apply Kd.R_drewN | apply Kd.R_drew)); exact Kd.R_mono HO_9.out (fun _ hk => ⟨hk.1, hk.2.1⟩)⟩, ⟨by (with_reducible repeat (first | refine blk_drewN ?_ _ | refine blk_drew ?_ | refine blk_alloc ?_ _)); exact BK371.out⟩, ⟨by (with_reducible repeat (first | refine blk_drewN ?_ _ | refine blk_drew ?_ | refine blk_alloc ?_ _)); exact BK376.out⟩, ⟨by repeat (first | (with_reducible first | exact HB.out | apply below_alloc | apply pw_below_drewN | apply below_drew1 | refine below_set ?_ GE371.out | refine below_set ?_ GE376.out | refine below_set ?_ GE385.out) | exact HB.out)⟩⟩
                          · rw [if_neg c63] at H
                            have c63b0 : decide (t372 ≤ x15_1) = false := decide_eq_false c63
                            clear c63
                            have H' := Aside0.mk H
                            clear H
                            have hnb75 := NB371_376.out
                            have hnc75 := NB376_371.out
                            have hnb76 := NB371_385.out
                            have hnc76 := NB385_371.out
                            have hcz77_0 : wc.cell? ⟨gb371, 0, none⟩ = some (.int .i64 t367) := (blk_cell BK371.out 0).trans rfl
                            have hcz77_1 : wc.cell? ⟨gb371, 1, none⟩ = some (.int .i64 t368) := (blk_cell BK371.out 1).trans rfl
                            have hcz77_2 : wc.cell? ⟨gb371, 2, none⟩ = some (.int .u8 t369) := (blk_cell BK371.out 2).trans rfl
                            have hfz77_0 := blk_frozen BK371.out 0
                            have hfz77_1 := blk_frozen BK371.out 1
                            have hfz77_2 := blk_frozen BK371.out 2
                            have hnb78 := NB376_385.out
                            have hnc78 := NB385_376.out
                            have hcz79_0 : wc.cell? ⟨gb376, 0, none⟩ = some (.int .i64 t372) := (blk_cell BK376.out 0).trans rfl
                            have hcz79_1 : wc.cell? ⟨gb376, 1, none⟩ = some (.int .i64 t373) := (blk_cell BK376.out 1).trans rfl
                            have hcz79_2 : wc.cell? ⟨gb376, 2, none⟩ = some (.int .u8 t374) := (blk_cell BK376.out 2).trans rfl
                            have hfz79_0 := blk_frozen BK376.out 0
                            have hfz79_1 := blk_frozen BK376.out 1
                            have hfz79_2 := blk_frozen BK376.out 2
                            go_wp2
                            go_roundg kj23
                            case measure => have := HK1.out; have := HJ23.out; omega
                            case rel => exact ⟨(wrap64 (x15_1 + 1)), (by first | rfl | (simp; done) | (simp [*]; done)), H', ⟨by have := HK1.out; have := HJ23.out; omega⟩, ⟨by (with_reducible repeat (first | apply Kd.R_alloc | apply Kd.R_drewN | apply Kd.R_drew)); exact Kd.R_mono HO_9.out (fun _ hk => ⟨hk.1, hk.2.1⟩)⟩, ⟨by (with_reducible repeat (first | refine blk_drewN ?_ _ | refine blk_drew ?_ | refine blk_alloc ?_ _)); exact BK371.out⟩, ⟨by (with_reducible repeat (first | refine blk_drewN ?_ _ | refine blk_drew ?_ | refine blk_alloc ?_ _)); exact BK376.out⟩, ⟨by repeat (first | (with_reducible first | exact HB.out | apply below_alloc | apply pw_below_drewN | apply below_drew1 | refine below_set ?_ GE371.out | refine below_set ?_ GE376.out | refine below_set ?_ GE385.out) | exact HB.out)⟩⟩
                        · replace c62 := Bool.eq_false_iff.mpr c62
                          subst c62
                          have H1 : (salvorlaw16_RegionEnds.l0 kj23 a0 a2 t363 t366 true false (wrap64 (x15_1 + 1)) t367 t368 t369 t372 t373 t374) = some r := by rw [if_neg (show ¬ (false = true) by decide)] at H; exact H
                          clear H
                          have H := H1
                          clear H1
                          have H' := Aside0.mk H
                          clear H
                          have hnb80 := NB371_376.out
                          have hnc80 := NB376_371.out
                          have hnb81 := NB371_385.out
                          have hnc81 := NB385_371.out
                          have hcz82_0 : wc.cell? ⟨gb371, 0, none⟩ = some (.int .i64 t367) := (blk_cell BK371.out 0).trans rfl
                          have hcz82_1 : wc.cell? ⟨gb371, 1, none⟩ = some (.int .i64 t368) := (blk_cell BK371.out 1).trans rfl
                          have hcz82_2 : wc.cell? ⟨gb371, 2, none⟩ = some (.int .u8 t369) := (blk_cell BK371.out 2).trans rfl
                          have hfz82_0 := blk_frozen BK371.out 0
                          have hfz82_1 := blk_frozen BK371.out 1
                          have hfz82_2 := blk_frozen BK371.out 2
                          go_wp2
                          go_roundg kj23
                          case measure => have := HK1.out; have := HJ23.out; omega
                          case rel => exact ⟨(wrap64 (x15_1 + 1)), (by first | rfl | (simp; done) | (simp [*]; done)), H', ⟨by have := HK1.out; have := HJ23.out; omega⟩, ⟨by (with_reducible repeat (first | apply Kd.R_alloc | apply Kd.R_drewN | apply Kd.R_drew)); exact Kd.R_mono HO_9.out (fun _ hk => ⟨hk.1, hk.2.1⟩)⟩, ⟨by (with_reducible repeat (first | refine blk_drewN ?_ _ | refine blk_drew ?_ | refine blk_alloc ?_ _)); exact BK371.out⟩, ⟨by (with_reducible repeat (first | refine blk_drewN ?_ _ | refine blk_drew ?_ | refine blk_alloc ?_ _)); exact BK376.out⟩, ⟨by repeat (first | (with_reducible first | exact HB.out | apply below_alloc | apply pw_below_drewN | apply below_drew1 | refine below_set ?_ GE371.out | refine below_set ?_ GE376.out | refine below_set ?_ GE385.out) | exact HB.out)⟩⟩
                      · rw [if_neg c61] at H
                        have c61b0 : (t383 == t366) = false := by simpa using c61
                        (try (have c61b1 : decide (t383 = t366) = false := by simpa using c61))
                        (try (have c61b2 : (t383 == t366) = false := by simpa using c61))
                        (try (have c61b3 : ¬ (t383 = t366) := by simpa using c61))
                        clear c61
                        exact absurd ((Option.some.inj H).trans HT.out) (by simp)
                    · rw [if_neg c60] at H
                      have c60b0 : decide (x15_1 < (wrap64 (t367 + t368))) = false := decide_eq_false c60
                      clear c60
                      by_cases c83 : t375 = true
                      · subst c83
                        have H1 : (if x15_1 ≥ t372 then (if x15_1 < (wrap64 (t372 + t373)) then (if (t383 == t366) = true then (salvorlaw16_RegionEnds.l0 kj23 a0 a2 t363 t366 true true (wrap64 (x15_1 + 1)) t367 t368 t369 t372 t373 t374) else (some false)) else (salvorlaw16_RegionEnds.l0 kj23 a0 a2 t363 t366 true true (wrap64 (x15_1 + 1)) t367 t368 t369 t372 t373 t374)) else (salvorlaw16_RegionEnds.l0 kj23 a0 a2 t363 t366 true true (wrap64 (x15_1 + 1)) t367 t368 t369 t372 t373 t374)) = some r := by rw [if_pos rfl] at H; exact H
                        clear H
                        have H := H1
                        clear H1
                        by_cases c84 : x15_1 ≥ t372
                        · rw [if_pos c84] at H
                          have c84b0 : decide (t372 ≤ x15_1) = true := decide_eq_true c84
                          clear c84
                          by_cases c85 : x15_1 < (wrap64 (t372 + t373))
                          · rw [if_pos c85] at H
                            have c85b0 : decide (x15_1 < (wrap64 (t372 + t373))) = true := decide_eq_true c85
                            clear c85
                            by_cases c86 : (t383 == t366) = true
                            · rw [if_pos c86] at H
                              have c86b0 : (t383 == t366) = true := c86
                              (try (have c86b1 : decide (t383 = t366) = true := by simpa using c86))
                              (try (have c86b2 : (t383 == t366) = true := by simpa using c86))
                              clear c86
                              have H' := Aside0.mk H
                              clear H
                              have hnb87 := NB371_376.out
                              have hnc87 := NB376_371.out
                              have hnb88 := NB371_385.out
                              have hnc88 := NB385_371.out
                              have hcz89_0 : wc.cell? ⟨gb371, 0, none⟩ = some (.int .i64 t367) := (blk_cell BK371.out 0).trans rfl
                              have hcz89_1 : wc.cell? ⟨gb371, 1, none⟩ = some (.int .i64 t368) := (blk_cell BK371.out 1).trans rfl
                              have hcz89_2 : wc.cell? ⟨gb371, 2, none⟩ = some (.int .u8 t369) := (blk_cell BK371.out 2).trans rfl
                              have hfz89_0 := blk_frozen BK371.out 0
                              have hfz89_1 := blk_frozen BK371.out 1
                              have hfz89_2 := blk_frozen BK371.out 2
                              have hnb90 := NB376_385.out
                              have hnc90 := NB385_376.out
                              have hcz91_0 : wc.cell? ⟨gb376, 0, none⟩ = some (.int .i64 t372) := (blk_cell BK376.out 0).trans rfl
                              have hcz91_1 : wc.cell? ⟨gb376, 1, none⟩ = some (.int .i64 t373) := (blk_cell BK376.out 1).trans rfl
                              have hcz91_2 : wc.cell? ⟨gb376, 2, none⟩ = some (.int .u8 t374) := (blk_cell BK376.out 2).trans rfl
                              have hfz91_0 := blk_frozen BK376.out 0
                              have hfz91_1 := blk_frozen BK376.out 1
                              have hfz91_2 := blk_frozen BK376.out 2
                              go_wp2
                              go_roundg kj23
                              case measure => have := HK1.out; have := HJ23.out; omega
                              case rel => exact ⟨(wrap64 (x15_1 + 1)), (by first | rfl | (simp; done) | (simp [*]; done)), H', ⟨by have := HK1.out; have := HJ23.out; omega⟩, ⟨by (with_reducible repeat (first | apply Kd.R_alloc | apply Kd.R_drewN | apply Kd.R_drew)); exact Kd.R_mono HO_9.out (fun _ hk => ⟨hk.1, hk.2.1⟩)⟩, ⟨by (with_reducible repeat (first | refine blk_drewN ?_ _ | refine blk_drew ?_ | refine blk_alloc ?_ _)); exact BK371.out⟩, ⟨by (with_reducible repeat (first | refine blk_drewN ?_ _ | refine blk_drew ?_ | refine blk_alloc ?_ _)); exact BK376.out⟩, ⟨by repeat (first | (with_reducible first | exact HB.out | apply below_alloc | apply pw_below_drewN | apply below_drew1 | refine below_set ?_ GE371.out | refine below_set ?_ GE376.out | refine below_set ?_ GE385.out) | exact HB.out)⟩⟩
                            · rw [if_neg c86] at H
                              have c86b0 : (t383 == t366) = false := by simpa using c86
                              (try (have c86b1 : decide (t383 = t366) = false := by simpa using c86))
                              (try (have c86b2 : (t383 == t366) = false := by simpa using c86))
                              (try (have c86b3 : ¬ (t383 = t366) := by simpa using c86))
                              clear c86
                              exact absurd ((Option.some.inj H).trans HT.out) (by simp)
                          · rw [if_neg c85] at H
                            have c85b0 : decide (x15_1 < (wrap64 (t372 + t373))) = false := decide_eq_false c85
                            clear c85
                            have H' := Aside0.mk H
                            clear H
                            have hnb92 := NB371_376.out
                            have hnc92 := NB376_371.out
                            have hnb93 := NB371_385.out
                            have hnc93 := NB385_371.out
                            have hcz94_0 : wc.cell? ⟨gb371, 0, none⟩ = some (.int .i64 t367) := (blk_cell BK371.out 0).trans rfl
                            have hcz94_1 : wc.cell? ⟨gb371, 1, none⟩ = some (.int .i64 t368) := (blk_cell BK371.out 1).trans rfl
                            have hcz94_2 : wc.cell? ⟨gb371, 2, none⟩ = some (.int .u8 t369) := (blk_cell BK371.out 2).trans rfl
                            have hfz94_0 := blk_frozen BK371.out 0
                            have hfz94_1 := blk_frozen BK371.out 1
                            have hfz94_2 := blk_frozen BK371.out 2
                            have hnb95 := NB376_385.out
                            have hnc95 := NB385_376.out
                            have hcz96_0 : wc.cell? ⟨gb376, 0, none⟩ = some (.int .i64 t372) := (blk_cell BK376.out 0).trans rfl
                            have hcz96_1 : wc.cell? ⟨gb376, 1, none⟩ = some (.int .i64 t373) := (blk_cell BK376.out 1).trans rfl
                            have hcz96_2 : wc.cell? ⟨gb376, 2, none⟩ = some (.int .u8 t374) := (blk_cell BK376.out 2).trans rfl
                            have hfz96_0 := blk_frozen BK376.out 0
                            have hfz96_1 := blk_frozen BK376.out 1
                            have hfz96_2 := blk_frozen BK376.out 2
                            go_wp2
                            go_roundg kj23
                            case measure => have := HK1.out; have := HJ23.out; omega
                            case rel => exact ⟨(wrap64 (x15_1 + 1)), (by first | rfl | (simp; done) | (simp [*]; done)), H', ⟨by have := HK1.out; have := HJ23.out; omega⟩, ⟨by (with_reducible repeat (first | apply Kd.R_alloc | apply Kd.R_drewN | apply Kd.R_drew)); exact Kd.R_mono HO_9.out (fun _ hk => ⟨hk.1, hk.2.1⟩)⟩, ⟨by (with_reducible repeat (first | refine blk_drewN ?_ _ | refine blk_drew ?_ | refine blk_alloc ?_ _)); exact BK371.out⟩, ⟨by (with_reducible repeat (first | refine blk_drewN ?_ _ | refine blk_drew ?_ | refine blk_alloc ?_ _)); exact BK376.out⟩, ⟨by repeat (first | (with_reducible first | exact HB.out | apply below_alloc | apply pw_below_drewN | apply below_drew1 | refine below_set ?_ GE371.out | refine below_set ?_ GE376.out | refine below_set ?_ GE385.out) | exact HB.out)⟩⟩
                        · rw [if_neg c84] at H
                          have c84b0 : decide (t372 ≤ x15_1) = false := decide_eq_false c84
                          clear c84
                          have H' := Aside0.mk H
                          clear H
                          have hnb97 := NB371_376.out
                          have hnc97 := NB376_371.out
                          have hnb98 := NB371_385.out
                          have hnc98 := NB385_371.out
                          have hcz99_0 : wc.cell? ⟨gb371, 0, none⟩ = some (.int .i64 t367) := (blk_cell BK371.out 0).trans rfl
                          have hcz99_1 : wc.cell? ⟨gb371, 1, none⟩ = some (.int .i64 t368) := (blk_cell BK371.out 1).trans rfl
                          have hcz99_2 : wc.cell? ⟨gb371, 2, none⟩ = some (.int .u8 t369) := (blk_cell BK371.out 2).trans rfl
                          have hfz99_0 := blk_frozen BK371.out 0
                          have hfz99_1 := blk_frozen BK371.out 1
                          have hfz99_2 := blk_frozen BK371.out 2
                          have hnb100 := NB376_385.out
                          have hnc100 := NB385_376.out
                          have hcz101_0 : wc.cell? ⟨gb376, 0, none⟩ = some (.int .i64 t372) := (blk_cell BK376.out 0).trans rfl
                          have hcz101_1 : wc.cell? ⟨gb376, 1, none⟩ = some (.int .i64 t373) := (blk_cell BK376.out 1).trans rfl
                          have hcz101_2 : wc.cell? ⟨gb376, 2, none⟩ = some (.int .u8 t374) := (blk_cell BK376.out 2).trans rfl
                          have hfz101_0 := blk_frozen BK376.out 0
                          have hfz101_1 := blk_frozen BK376.out 1
                          have hfz101_2 := blk_frozen BK376.out 2
                          go_wp2
                          go_roundg kj23
                          case measure => have := HK1.out; have := HJ23.out; omega
                          case rel => exact ⟨(wrap64 (x15_1 + 1)), (by first | rfl | (simp; done) | (simp [*]; done)), H', ⟨by have := HK1.out; have := HJ23.out; omega⟩, ⟨by (with_reducible repeat (first | apply Kd.R_alloc | apply Kd.R_drewN | apply Kd.R_drew)); exact Kd.R_mono HO_9.out (fun _ hk => ⟨hk.1, hk.2.1⟩)⟩, ⟨by (with_reducible repeat (first | refine blk_drewN ?_ _ | refine blk_drew ?_ | refine blk_alloc ?_ _)); exact BK371.out⟩, ⟨by (with_reducible repeat (first | refine blk_drewN ?_ _ | refine blk_drew ?_ | refine blk_alloc ?_ _)); exact BK376.out⟩, ⟨by repeat (first | (with_reducible first | exact HB.out | apply below_alloc | apply pw_below_drewN | apply below_drew1 | refine below_set ?_ GE371.out | refine below_set ?_ GE376.out | refine below_set ?_ GE385.out) | exact HB.out)⟩⟩
                      · replace c83 := Bool.eq_false_iff.mpr c83
                        subst c83
                        have H1 : (salvorlaw16_RegionEnds.l0 kj23 a0 a2 t363 t366 true false (wrap64 (x15_1 + 1)) t367 t368 t369 t372 t373 t374) = some r := by rw [if_neg (show ¬ (false = true) by decide)] at H; exact H
                        clear H
                        have H := H1
                        clear H1
                        have H' := Aside0.mk H
                        clear H
                        have hnb102 := NB371_376.out
                        have hnc102 := NB376_371.out
                        have hnb103 := NB371_385.out
                        have hnc103 := NB385_371.out
                        have hcz104_0 : wc.cell? ⟨gb371, 0, none⟩ = some (.int .i64 t367) := (blk_cell BK371.out 0).trans rfl
                        have hcz104_1 : wc.cell? ⟨gb371, 1, none⟩ = some (.int .i64 t368) := (blk_cell BK371.out 1).trans rfl
                        have hcz104_2 : wc.cell? ⟨gb371, 2, none⟩ = some (.int .u8 t369) := (blk_cell BK371.out 2).trans rfl
                        have hfz104_0 := blk_frozen BK371.out 0
                        have hfz104_1 := blk_frozen BK371.out 1
                        have hfz104_2 := blk_frozen BK371.out 2
                        go_wp2
                        go_roundg kj23
                        case measure => have := HK1.out; have := HJ23.out; omega
                        case rel => exact ⟨(wrap64 (x15_1 + 1)), (by first | rfl | (simp; done) | (simp [*]; done)), H', ⟨by have := HK1.out; have := HJ23.out; omega⟩, ⟨by (with_reducible repeat (first | apply Kd.R_alloc | apply Kd.R_drewN | apply Kd.R_drew)); exact Kd.R_mono HO_9.out (fun _ hk => ⟨hk.1, hk.2.1⟩)⟩, ⟨by (with_reducible repeat (first | refine blk_drewN ?_ _ | refine blk_drew ?_ | refine blk_alloc ?_ _)); exact BK371.out⟩, ⟨by (with_reducible repeat (first | refine blk_drewN ?_ _ | refine blk_drew ?_ | refine blk_alloc ?_ _)); exact BK376.out⟩, ⟨by repeat (first | (with_reducible first | exact HB.out | apply below_alloc | apply pw_below_drewN | apply below_drew1 | refine below_set ?_ GE371.out | refine below_set ?_ GE376.out | refine below_set ?_ GE385.out) | exact HB.out)⟩⟩
                  · rw [if_neg c59] at H
                    have c59b0 : decide (t367 ≤ x15_1) = false := decide_eq_false c59
                    clear c59
                    by_cases c105 : t375 = true
                    · subst c105
                      have H1 : (if x15_1 ≥ t372 then (if x15_1 < (wrap64 (t372 + t373)) then (if (t383 == t366) = true then (salvorlaw16_RegionEnds.l0 kj23 a0 a2 t363 t366 true true (wrap64 (x15_1 + 1)) t367 t368 t369 t372 t373 t374) else (some false)) else (salvorlaw16_RegionEnds.l0 kj23 a0 a2 t363 t366 true true (wrap64 (x15_1 + 1)) t367 t368 t369 t372 t373 t374)) else (salvorlaw16_RegionEnds.l0 kj23 a0 a2 t363 t366 true true (wrap64 (x15_1 + 1)) t367 t368 t369 t372 t373 t374)) = some r := by rw [if_pos rfl] at H; exact H
                      clear H
                      have H := H1
                      clear H1
                      by_cases c106 : x15_1 ≥ t372
                      · rw [if_pos c106] at H
                        have c106b0 : decide (t372 ≤ x15_1) = true := decide_eq_true c106
                        clear c106
                        by_cases c107 : x15_1 < (wrap64 (t372 + t373))
                        · rw [if_pos c107] at H
                          have c107b0 : decide (x15_1 < (wrap64 (t372 + t373))) = true := decide_eq_true c107
                          clear c107
                          by_cases c108 : (t383 == t366) = true
                          · rw [if_pos c108] at H
                            have c108b0 : (t383 == t366) = true := c108
                            (try (have c108b1 : decide (t383 = t366) = true := by simpa using c108))
                            (try (have c108b2 : (t383 == t366) = true := by simpa using c108))
                            clear c108
                            have H' := Aside0.mk H
                            clear H
                            have hnb109 := NB371_376.out
                            have hnc109 := NB376_371.out
                            have hnb110 := NB371_385.out
                            have hnc110 := NB385_371.out
                            have hcz111_0 : wc.cell? ⟨gb371, 0, none⟩ = some (.int .i64 t367) := (blk_cell BK371.out 0).trans rfl
                            have hcz111_1 : wc.cell? ⟨gb371, 1, none⟩ = some (.int .i64 t368) := (blk_cell BK371.out 1).trans rfl
                            have hcz111_2 : wc.cell? ⟨gb371, 2, none⟩ = some (.int .u8 t369) := (blk_cell BK371.out 2).trans rfl
                            have hfz111_0 := blk_frozen BK371.out 0
                            have hfz111_1 := blk_frozen BK371.out 1
                            have hfz111_2 := blk_frozen BK371.out 2
                            have hnb112 := NB376_385.out
                            have hnc112 := NB385_376.out
                            have hcz113_0 : wc.cell? ⟨gb376, 0, none⟩ = some (.int .i64 t372) := (blk_cell BK376.out 0).trans rfl
                            have hcz113_1 : wc.cell? ⟨gb376, 1, none⟩ = some (.int .i64 t373) := (blk_cell BK376.out 1).trans rfl
                            have hcz113_2 : wc.cell? ⟨gb376, 2, none⟩ = some (.int .u8 t374) := (blk_cell BK376.out 2).trans rfl
                            have hfz113_0 := blk_frozen BK376.out 0
                            have hfz113_1 := blk_frozen BK376.out 1
                            have hfz113_2 := blk_frozen BK376.out 2
                            go_wp2
                            go_roundg kj23
                            case measure => have := HK1.out; have := HJ23.out; omega
                            case rel => exact ⟨(wrap64 (x15_1 + 1)), (by first | rfl | (simp; done) | (simp [*]; done)), H', ⟨by have := HK1.out; have := HJ23.out; omega⟩, ⟨by (with_reducible repeat (first | apply Kd.R_alloc | apply Kd.R_drewN | apply Kd.R_drew)); exact Kd.R_mono HO_9.out (fun _ hk => ⟨hk.1, hk.2.1⟩)⟩, ⟨by (with_reducible repeat (first | refine blk_drewN ?_ _ | refine blk_drew ?_ | refine blk_alloc ?_ _)); exact BK371.out⟩, ⟨by (with_reducible repeat (first | refine blk_drewN ?_ _ | refine blk_drew ?_ | refine blk_alloc ?_ _)); exact BK376.out⟩, ⟨by repeat (first | (with_reducible first | exact HB.out | apply below_alloc | apply pw_below_drewN | apply below_drew1 | refine below_set ?_ GE371.out | refine below_set ?_ GE376.out | refine below_set ?_ GE385.out) | exact HB.out)⟩⟩
                          · rw [if_neg c108] at H
                            have c108b0 : (t383 == t366) = false := by simpa using c108
                            (try (have c108b1 : decide (t383 = t366) = false := by simpa using c108))
                            (try (have c108b2 : (t383 == t366) = false := by simpa using c108))
                            (try (have c108b3 : ¬ (t383 = t366) := by simpa using c108))
                            clear c108
                            exact absurd ((Option.some.inj H).trans HT.out) (by simp)
                        · rw [if_neg c107] at H
                          have c107b0 : decide (x15_1 < (wrap64 (t372 + t373))) = false := decide_eq_false c107
                          clear c107
                          have H' := Aside0.mk H
                          clear H
                          have hnb114 := NB371_376.out
                          have hnc114 := NB376_371.out
                          have hnb115 := NB371_385.out
                          have hnc115 := NB385_371.out
                          have hcz116_0 : wc.cell? ⟨gb371, 0, none⟩ = some (.int .i64 t367) := (blk_cell BK371.out 0).trans rfl
                          have hcz116_1 : wc.cell? ⟨gb371, 1, none⟩ = some (.int .i64 t368) := (blk_cell BK371.out 1).trans rfl
                          have hcz116_2 : wc.cell? ⟨gb371, 2, none⟩ = some (.int .u8 t369) := (blk_cell BK371.out 2).trans rfl
                          have hfz116_0 := blk_frozen BK371.out 0
                          have hfz116_1 := blk_frozen BK371.out 1
                          have hfz116_2 := blk_frozen BK371.out 2
                          have hnb117 := NB376_385.out
                          have hnc117 := NB385_376.out
                          have hcz118_0 : wc.cell? ⟨gb376, 0, none⟩ = some (.int .i64 t372) := (blk_cell BK376.out 0).trans rfl
                          have hcz118_1 : wc.cell? ⟨gb376, 1, none⟩ = some (.int .i64 t373) := (blk_cell BK376.out 1).trans rfl
                          have hcz118_2 : wc.cell? ⟨gb376, 2, none⟩ = some (.int .u8 t374) := (blk_cell BK376.out 2).trans rfl
                          have hfz118_0 := blk_frozen BK376.out 0
                          have hfz118_1 := blk_frozen BK376.out 1
                          have hfz118_2 := blk_frozen BK376.out 2
                          go_wp2
                          go_roundg kj23
                          case measure => have := HK1.out; have := HJ23.out; omega
                          case rel => exact ⟨(wrap64 (x15_1 + 1)), (by first | rfl | (simp; done) | (simp [*]; done)), H', ⟨by have := HK1.out; have := HJ23.out; omega⟩, ⟨by (with_reducible repeat (first | apply Kd.R_alloc | apply Kd.R_drewN | apply Kd.R_drew)); exact Kd.R_mono HO_9.out (fun _ hk => ⟨hk.1, hk.2.1⟩)⟩, ⟨by (with_reducible repeat (first | refine blk_drewN ?_ _ | refine blk_drew ?_ | refine blk_alloc ?_ _)); exact BK371.out⟩, ⟨by (with_reducible repeat (first | refine blk_drewN ?_ _ | refine blk_drew ?_ | refine blk_alloc ?_ _)); exact BK376.out⟩, ⟨by repeat (first | (with_reducible first | exact HB.out | apply below_alloc | apply pw_below_drewN | apply below_drew1 | refine below_set ?_ GE371.out | refine below_set ?_ GE376.out | refine below_set ?_ GE385.out) | exact HB.out)⟩⟩
                      · rw [if_neg c106] at H
                        have c106b0 : decide (t372 ≤ x15_1) = false := decide_eq_false c106
                        clear c106
                        have H' := Aside0.mk H
                        clear H
                        have hnb119 := NB371_376.out
                        have hnc119 := NB376_371.out
                        have hnb120 := NB371_385.out
                        have hnc120 := NB385_371.out
                        have hcz121_0 : wc.cell? ⟨gb371, 0, none⟩ = some (.int .i64 t367) := (blk_cell BK371.out 0).trans rfl
                        have hcz121_1 : wc.cell? ⟨gb371, 1, none⟩ = some (.int .i64 t368) := (blk_cell BK371.out 1).trans rfl
                        have hcz121_2 : wc.cell? ⟨gb371, 2, none⟩ = some (.int .u8 t369) := (blk_cell BK371.out 2).trans rfl
                        have hfz121_0 := blk_frozen BK371.out 0
                        have hfz121_1 := blk_frozen BK371.out 1
                        have hfz121_2 := blk_frozen BK371.out 2
                        have hnb122 := NB376_385.out
                        have hnc122 := NB385_376.out
                        have hcz123_0 : wc.cell? ⟨gb376, 0, none⟩ = some (.int .i64 t372) := (blk_cell BK376.out 0).trans rfl
                        have hcz123_1 : wc.cell? ⟨gb376, 1, none⟩ = some (.int .i64 t373) := (blk_cell BK376.out 1).trans rfl
                        have hcz123_2 : wc.cell? ⟨gb376, 2, none⟩ = some (.int .u8 t374) := (blk_cell BK376.out 2).trans rfl
                        have hfz123_0 := blk_frozen BK376.out 0
                        have hfz123_1 := blk_frozen BK376.out 1
                        have hfz123_2 := blk_frozen BK376.out 2
                        go_wp2
                        go_roundg kj23
                        case measure => have := HK1.out; have := HJ23.out; omega
                        case rel => exact ⟨(wrap64 (x15_1 + 1)), (by first | rfl | (simp; done) | (simp [*]; done)), H', ⟨by have := HK1.out; have := HJ23.out; omega⟩, ⟨by (with_reducible repeat (first | apply Kd.R_alloc | apply Kd.R_drewN | apply Kd.R_drew)); exact Kd.R_mono HO_9.out (fun _ hk => ⟨hk.1, hk.2.1⟩)⟩, ⟨by (with_reducible repeat (first | refine blk_drewN ?_ _ | refine blk_drew ?_ | refine blk_alloc ?_ _)); exact BK371.out⟩, ⟨by (with_reducible repeat (first | refine blk_drewN ?_ _ | refine blk_drew ?_ | refine blk_alloc ?_ _)); exact BK376.out⟩, ⟨by repeat (first | (with_reducible first | exact HB.out | apply below_alloc | apply pw_below_drewN | apply below_drew1 | refine below_set ?_ GE371.out | refine below_set ?_ GE376.out | refine below_set ?_ GE385.out) | exact HB.out)⟩⟩
                    · replace c105 := Bool.eq_false_iff.mpr c105
                      subst c105
                      have H1 : (salvorlaw16_RegionEnds.l0 kj23 a0 a2 t363 t366 true false (wrap64 (x15_1 + 1)) t367 t368 t369 t372 t373 t374) = some r := by rw [if_neg (show ¬ (false = true) by decide)] at H; exact H
                      clear H
                      have H := H1
                      clear H1
                      have H' := Aside0.mk H
                      clear H
                      have hnb124 := NB371_376.out
                      have hnc124 := NB376_371.out
                      have hnb125 := NB371_385.out
                      have hnc125 := NB385_371.out
                      have hcz126_0 : wc.cell? ⟨gb371, 0, none⟩ = some (.int .i64 t367) := (blk_cell BK371.out 0).trans rfl
                      have hcz126_1 : wc.cell? ⟨gb371, 1, none⟩ = some (.int .i64 t368) := (blk_cell BK371.out 1).trans rfl
                      have hcz126_2 : wc.cell? ⟨gb371, 2, none⟩ = some (.int .u8 t369) := (blk_cell BK371.out 2).trans rfl
                      have hfz126_0 := blk_frozen BK371.out 0
                      have hfz126_1 := blk_frozen BK371.out 1
                      have hfz126_2 := blk_frozen BK371.out 2
                      go_wp2
                      go_roundg kj23
                      case measure => have := HK1.out; have := HJ23.out; omega
                      case rel => exact ⟨(wrap64 (x15_1 + 1)), (by first | rfl | (simp; done) | (simp [*]; done)), H', ⟨by have := HK1.out; have := HJ23.out; omega⟩, ⟨by (with_reducible repeat (first | apply Kd.R_alloc | apply Kd.R_drewN | apply Kd.R_drew)); exact Kd.R_mono HO_9.out (fun _ hk => ⟨hk.1, hk.2.1⟩)⟩, ⟨by (with_reducible repeat (first | refine blk_drewN ?_ _ | refine blk_drew ?_ | refine blk_alloc ?_ _)); exact BK371.out⟩, ⟨by (with_reducible repeat (first | refine blk_drewN ?_ _ | refine blk_drew ?_ | refine blk_alloc ?_ _)); exact BK376.out⟩, ⟨by repeat (first | (with_reducible first | exact HB.out | apply below_alloc | apply pw_below_drewN | apply below_drew1 | refine below_set ?_ GE371.out | refine below_set ?_ GE376.out | refine below_set ?_ GE385.out) | exact HB.out)⟩⟩
                · replace c58 := Bool.eq_false_iff.mpr c58
                  subst c58
                  have H1 : (if t375 = true then (if x15_1 ≥ t372 then (if x15_1 < (wrap64 (t372 + t373)) then (if (t383 == t366) = true then (salvorlaw16_RegionEnds.l0 kj23 a0 a2 t363 t366 false t375 (wrap64 (x15_1 + 1)) t367 t368 t369 t372 t373 t374) else (some false)) else (salvorlaw16_RegionEnds.l0 kj23 a0 a2 t363 t366 false t375 (wrap64 (x15_1 + 1)) t367 t368 t369 t372 t373 t374)) else (salvorlaw16_RegionEnds.l0 kj23 a0 a2 t363 t366 false t375 (wrap64 (x15_1 + 1)) t367 t368 t369 t372 t373 t374)) else (salvorlaw16_RegionEnds.l0 kj23 a0 a2 t363 t366 false t375 (wrap64 (x15_1 + 1)) t367 t368 t369 t372 t373 t374)) = some r := by rw [if_neg (show ¬ (false = true) by decide)] at H; exact H
                  clear H
                  have H := H1
                  clear H1
                  by_cases c127 : t375 = true
                  · subst c127
                    have H1 : (if x15_1 ≥ t372 then (if x15_1 < (wrap64 (t372 + t373)) then (if (t383 == t366) = true then (salvorlaw16_RegionEnds.l0 kj23 a0 a2 t363 t366 false true (wrap64 (x15_1 + 1)) t367 t368 t369 t372 t373 t374) else (some false)) else (salvorlaw16_RegionEnds.l0 kj23 a0 a2 t363 t366 false true (wrap64 (x15_1 + 1)) t367 t368 t369 t372 t373 t374)) else (salvorlaw16_RegionEnds.l0 kj23 a0 a2 t363 t366 false true (wrap64 (x15_1 + 1)) t367 t368 t369 t372 t373 t374)) = some r := by rw [if_pos rfl] at H; exact H
                    clear H
                    have H := H1
                    clear H1
                    by_cases c128 : x15_1 ≥ t372
                    · rw [if_pos c128] at H
                      have c128b0 : decide (t372 ≤ x15_1) = true := decide_eq_true c128
                      clear c128
                      by_cases c129 : x15_1 < (wrap64 (t372 + t373))
                      · rw [if_pos c129] at H
                        have c129b0 : decide (x15_1 < (wrap64 (t372 + t373))) = true := decide_eq_true c129
                        clear c129
                        by_cases c130 : (t383 == t366) = true
                        · rw [if_pos c130] at H
                          have c130b0 : (t383 == t366) = true := c130
                          (try (have c130b1 : decide (t383 = t366) = true := by simpa using c130))
                          (try (have c130b2 : (t383 == t366) = true := by simpa using c130))
                          clear c130
                          have H' := Aside0.mk H
                          clear H
                          have hnb131 := NB376_371.out
                          have hnc131 := NB371_376.out
                          have hnb132 := NB376_385.out
                          have hnc132 := NB385_376.out
                          have hcz133_0 : wc.cell? ⟨gb376, 0, none⟩ = some (.int .i64 t372) := (blk_cell BK376.out 0).trans rfl
                          have hcz133_1 : wc.cell? ⟨gb376, 1, none⟩ = some (.int .i64 t373) := (blk_cell BK376.out 1).trans rfl
                          have hcz133_2 : wc.cell? ⟨gb376, 2, none⟩ = some (.int .u8 t374) := (blk_cell BK376.out 2).trans rfl
                          have hfz133_0 := blk_frozen BK376.out 0
                          have hfz133_1 := blk_frozen BK376.out 1
                          have hfz133_2 := blk_frozen BK376.out 2
                          go_wp2
                          go_roundg kj23
                          case measure => have := HK1.out; have := HJ23.out; omega
                          case rel => exact ⟨(wrap64 (x15_1 + 1)), (by first | rfl | (simp; done) | (simp [*]; done)), H', ⟨by have := HK1.out; have := HJ23.out; omega⟩, ⟨by (with_reducible repeat (first | apply Kd.R_alloc | apply Kd.R_drewN | apply Kd.R_drew)); exact Kd.R_mono HO_9.out (fun _ hk => ⟨hk.1, hk.2.1⟩)⟩, ⟨by (with_reducible repeat (first | refine blk_drewN ?_ _ | refine blk_drew ?_ | refine blk_alloc ?_ _)); exact BK371.out⟩, ⟨by (with_reducible repeat (first | refine blk_drewN ?_ _ | refine blk_drew ?_ | refine blk_alloc ?_ _)); exact BK376.out⟩, ⟨by repeat (first | (with_reducible first | exact HB.out | apply below_alloc | apply pw_below_drewN | apply below_drew1 | refine below_set ?_ GE371.out | refine below_set ?_ GE376.out | refine below_set ?_ GE385.out) | exact HB.out)⟩⟩
                        · rw [if_neg c130] at H
                          have c130b0 : (t383 == t366) = false := by simpa using c130
                          (try (have c130b1 : decide (t383 = t366) = false := by simpa using c130))
                          (try (have c130b2 : (t383 == t366) = false := by simpa using c130))
                          (try (have c130b3 : ¬ (t383 = t366) := by simpa using c130))
                          clear c130
                          exact absurd ((Option.some.inj H).trans HT.out) (by simp)
                      · rw [if_neg c129] at H
                        have c129b0 : decide (x15_1 < (wrap64 (t372 + t373))) = false := decide_eq_false c129
                        clear c129
                        have H' := Aside0.mk H
                        clear H
                        have hnb134 := NB376_371.out
                        have hnc134 := NB371_376.out
                        have hnb135 := NB376_385.out
                        have hnc135 := NB385_376.out
                        have hcz136_0 : wc.cell? ⟨gb376, 0, none⟩ = some (.int .i64 t372) := (blk_cell BK376.out 0).trans rfl
                        have hcz136_1 : wc.cell? ⟨gb376, 1, none⟩ = some (.int .i64 t373) := (blk_cell BK376.out 1).trans rfl
                        have hcz136_2 : wc.cell? ⟨gb376, 2, none⟩ = some (.int .u8 t374) := (blk_cell BK376.out 2).trans rfl
                        have hfz136_0 := blk_frozen BK376.out 0
                        have hfz136_1 := blk_frozen BK376.out 1
                        have hfz136_2 := blk_frozen BK376.out 2
                        go_wp2
                        go_roundg kj23
                        case measure => have := HK1.out; have := HJ23.out; omega
                        case rel => exact ⟨(wrap64 (x15_1 + 1)), (by first | rfl | (simp; done) | (simp [*]; done)), H', ⟨by have := HK1.out; have := HJ23.out; omega⟩, ⟨by (with_reducible repeat (first | apply Kd.R_alloc | apply Kd.R_drewN | apply Kd.R_drew)); exact Kd.R_mono HO_9.out (fun _ hk => ⟨hk.1, hk.2.1⟩)⟩, ⟨by (with_reducible repeat (first | refine blk_drewN ?_ _ | refine blk_drew ?_ | refine blk_alloc ?_ _)); exact BK371.out⟩, ⟨by (with_reducible repeat (first | refine blk_drewN ?_ _ | refine blk_drew ?_ | refine blk_alloc ?_ _)); exact BK376.out⟩, ⟨by repeat (first | (with_reducible first | exact HB.out | apply below_alloc | apply pw_below_drewN | apply below_drew1 | refine below_set ?_ GE371.out | refine below_set ?_ GE376.out | refine below_set ?_ GE385.out) | exact HB.out)⟩⟩
                    · rw [if_neg c128] at H
                      have c128b0 : decide (t372 ≤ x15_1) = false := decide_eq_false c128
                      clear c128
                      have H' := Aside0.mk H
                      clear H
                      have hnb137 := NB376_371.out
                      have hnc137 := NB371_376.out
                      have hnb138 := NB376_385.out
                      have hnc138 := NB385_376.out
                      have hcz139_0 : wc.cell? ⟨gb376, 0, none⟩ = some (.int .i64 t372) := (blk_cell BK376.out 0).trans rfl
                      have hcz139_1 : wc.cell? ⟨gb376, 1, none⟩ = some (.int .i64 t373) := (blk_cell BK376.out 1).trans rfl
                      have hcz139_2 : wc.cell? ⟨gb376, 2, none⟩ = some (.int .u8 t374) := (blk_cell BK376.out 2).trans rfl
                      have hfz139_0 := blk_frozen BK376.out 0
                      have hfz139_1 := blk_frozen BK376.out 1
                      have hfz139_2 := blk_frozen BK376.out 2
                      go_wp2
                      go_roundg kj23
                      case measure => have := HK1.out; have := HJ23.out; omega
                      case rel => exact ⟨(wrap64 (x15_1 + 1)), (by first | rfl | (simp; done) | (simp [*]; done)), H', ⟨by have := HK1.out; have := HJ23.out; omega⟩, ⟨by (with_reducible repeat (first | apply Kd.R_alloc | apply Kd.R_drewN | apply Kd.R_drew)); exact Kd.R_mono HO_9.out (fun _ hk => ⟨hk.1, hk.2.1⟩)⟩, ⟨by (with_reducible repeat (first | refine blk_drewN ?_ _ | refine blk_drew ?_ | refine blk_alloc ?_ _)); exact BK371.out⟩, ⟨by (with_reducible repeat (first | refine blk_drewN ?_ _ | refine blk_drew ?_ | refine blk_alloc ?_ _)); exact BK376.out⟩, ⟨by repeat (first | (with_reducible first | exact HB.out | apply below_alloc | apply pw_below_drewN | apply below_drew1 | refine below_set ?_ GE371.out | refine below_set ?_ GE376.out | refine below_set ?_ GE385.out) | exact HB.out)⟩⟩
                  · replace c127 := Bool.eq_false_iff.mpr c127
                    subst c127
                    have H1 : (salvorlaw16_RegionEnds.l0 kj23 a0 a2 t363 t366 false false (wrap64 (x15_1 + 1)) t367 t368 t369 t372 t373 t374) = some r := by rw [if_neg (show ¬ (false = true) by decide)] at H; exact H
                    clear H
                    have H := H1
                    clear H1
                    have H' := Aside0.mk H
                    clear H
                    go_wp2
                    go_roundg kj23
                    case measure => have := HK1.out; have := HJ23.out; omega
                    case rel => exact ⟨(wrap64 (x15_1 + 1)), (by first | rfl | (simp; done) | (simp [*]; done)), H', ⟨by have := HK1.out; have := HJ23.out; omega⟩, ⟨by (with_reducible repeat (first | apply Kd.R_alloc | apply Kd.R_drewN | apply Kd.R_drew)); exact Kd.R_mono HO_9.out (fun _ hk => ⟨hk.1, hk.2.1⟩)⟩, ⟨by (with_reducible repeat (first | refine blk_drewN ?_ _ | refine blk_drew ?_ | refine blk_alloc ?_ _)); exact BK371.out⟩, ⟨by (with_reducible repeat (first | refine blk_drewN ?_ _ | refine blk_drew ?_ | refine blk_alloc ?_ _)); exact BK376.out⟩, ⟨by repeat (first | (with_reducible first | exact HB.out | apply below_alloc | apply pw_below_drewN | apply below_drew1 | refine below_set ?_ GE371.out | refine below_set ?_ GE376.out | refine below_set ?_ GE385.out) | exact HB.out)⟩⟩
        · rw [if_neg c22] at H
          have c22b0 : decide (x15_1 < (wrap64 (a0))) = false := decide_eq_false c22
          clear c22
          by_cases c140 : t370 = true
          · subst c140
            have H1 : (if t367 ≥ (wrap64 (a2)) then (if t368 > 0 then (if t369 = t366 then (if t375 = true then (if (wrap64 (t372 + t373)) ≤ (wrap64 (a2)) then (if t373 > 0 then (if t374 = t366 then ((salvorlaw16_RegionRuns.f k1).bind fun t377 => (some t377)) else (some false)) else (some false)) else (some false)) else ((salvorlaw16_RegionRuns.f k1).bind fun t378 => (some t378))) else (some false)) else (some false)) else (some false)) = some r := by rw [if_pos rfl] at H; exact H
            clear H
            have H := H1
            clear H1
            by_cases c141 : t367 ≥ (wrap64 (a2))
            · rw [if_pos c141] at H
              have c141b0 : decide ((wrap64 (a2)) ≤ t367) = true := decide_eq_true c141
              clear c141
              by_cases c142 : t368 > 0
              · rw [if_pos c142] at H
                have c142b0 : decide (0 < t368) = true := decide_eq_true c142
                clear c142
                by_cases c143 : t369 = t366
                · rw [if_pos c143] at H
                  have c143b0 : (t369 == t366) = true := beq_iff_eq.mpr c143
                  have c143b1 : (t369 != t366) = false := bne_eq_false_iff_eq.mpr c143
                  clear c143
                  by_cases c144 : t375 = true
                  · subst c144
                    have H1 : (if (wrap64 (t372 + t373)) ≤ (wrap64 (a2)) then (if t373 > 0 then (if t374 = t366 then ((salvorlaw16_RegionRuns.f k1).bind fun t377 => (some t377)) else (some false)) else (some false)) else (some false)) = some r := by rw [if_pos rfl] at H; exact H
                    clear H
                    have H := H1
                    clear H1
                    by_cases c145 : (wrap64 (t372 + t373)) ≤ (wrap64 (a2))
                    · rw [if_pos c145] at H
                      have c145b0 : decide ((wrap64 (t372 + t373)) ≤ (wrap64 (a2))) = true := decide_eq_true c145
                      clear c145
                      by_cases c146 : t373 > 0
                      · rw [if_pos c146] at H
                        have c146b0 : decide (0 < t373) = true := decide_eq_true c146
                        clear c146
                        by_cases c147 : t374 = t366
                        · rw [if_pos c147] at H
                          have c147b0 : (t374 == t366) = true := beq_iff_eq.mpr c147
                          have c147b1 : (t374 != t366) = false := bne_eq_false_iff_eq.mpr c147
                          clear c147
                          replace H := Option.bind_eq_some_iff.mp H
                          obtain ⟨t377, A1480, H⟩ := H
                          replace H : (some t377) = some r := H
                          have A148 := Aside0.mk A1480
                          clear A1480
                          obtain rfl := Option.some.inj H
                          have hnb149 := NB371_376.out
                          have hnc149 := NB376_371.out
                          have hcz150_0 : wr.cell? ⟨gb371, 0, none⟩ = some (.int .i64 t367) := (blk_cell BK371.out 0).trans rfl
                          have hcz150_1 : wr.cell? ⟨gb371, 1, none⟩ = some (.int .i64 t368) := (blk_cell BK371.out 1).trans rfl
                          have hcz150_2 : wr.cell? ⟨gb371, 2, none⟩ = some (.int .u8 t369) := (blk_cell BK371.out 2).trans rfl
                          have hfz150_0 := blk_frozen BK371.out 0
                          have hfz150_1 := blk_frozen BK371.out 1
                          have hfz150_2 := blk_frozen BK371.out 2
                          have hcz151_0 : wr.cell? ⟨gb376, 0, none⟩ = some (.int .i64 t372) := (blk_cell BK376.out 0).trans rfl
                          have hcz151_1 : wr.cell? ⟨gb376, 1, none⟩ = some (.int .i64 t373) := (blk_cell BK376.out 1).trans rfl
                          have hcz151_2 : wr.cell? ⟨gb376, 2, none⟩ = some (.int .u8 t374) := (blk_cell BK376.out 2).trans rfl
                          have hfz151_0 := blk_frozen BK376.out 0
                          have hfz151_1 := blk_frozen BK376.out 1
                          have hfz151_2 := blk_frozen BK376.out 2
                          go_wp2_with (first | (go_at_call 3; (with_reducible refine (salvorlaw16_RegionRuns.calls k1  t377 _ A148.out).mono ?_); rintro e w152 ⟨rfl, hb⟩; have n0_ := Aside0.mk (Kd.R_below (by (with_reducible repeat (first | apply Kd.R_alloc | apply Kd.R_drewN | apply Kd.R_drew)); exact HO_9.out) hb); have n1_ := Aside0.mk (blk_below (g := gb371) (o := .cells #[.int .i64 t367, .int .i64 t368, .int .u8 t369] 26 (0, 0)) (by (with_reducible repeat (first | refine blk_drewN ?_ _ | refine blk_drew ?_ | refine blk_alloc ?_ _)); exact BK371.out) hb); have n2_ := Aside0.mk (blk_below (g := gb376) (o := .cells #[.int .i64 t372, .int .i64 t373, .int .u8 t374] 26 (0, 0)) (by (with_reducible repeat (first | refine blk_drewN ?_ _ | refine blk_drew ?_ | refine blk_alloc ?_ _)); exact BK376.out) hb); have n3_ := Aside0.mk (below_step (by repeat (first | (with_reducible first | exact HB.out | apply below_alloc | apply pw_below_drewN | apply below_drew1 | refine below_set ?_ GE371.out | refine below_set ?_ GE376.out) | exact HB.out)) hb); clear HO_9; clear BK371; clear BK376; clear HB; have HO_9 := n0_; have BK371 := n1_; have BK376 := n2_; have HB := n3_; clear n0_ n1_ n2_ n3_; (try clear hb); (try clear hb2); (try clear hk); (try clear hi)))
                          go_ret
                          exact ⟨by first | rfl | (simp [errW_none, errW_some] <;> rfl) | (simp [*, errW_none, errW_some] <;> rfl), by repeat (first | (with_reducible first | exact HB.out | apply below_alloc | apply pw_below_drewN | apply below_drew1 | refine below_set ?_ GE371.out | refine below_set ?_ GE376.out) | exact HB.out)⟩
                        · rw [if_neg c147] at H
                          have c147b0 : (t374 == t366) = false := beq_eq_false_iff_ne.mpr c147
                          have c147b1 : (t374 != t366) = true := bne_iff_ne.mpr c147
                          exact absurd ((Option.some.inj H).trans HT.out) (by simp)
                      · rw [if_neg c146] at H
                        have c146b0 : decide (0 < t373) = false := decide_eq_false c146
                        clear c146
                        exact absurd ((Option.some.inj H).trans HT.out) (by simp)
                    · rw [if_neg c145] at H
                      have c145b0 : decide ((wrap64 (t372 + t373)) ≤ (wrap64 (a2))) = false := decide_eq_false c145
                      clear c145
                      exact absurd ((Option.some.inj H).trans HT.out) (by simp)
                  · replace c144 := Bool.eq_false_iff.mpr c144
                    subst c144
                    have H1 : ((salvorlaw16_RegionRuns.f k1).bind fun t378 => (some t378)) = some r := by rw [if_neg (show ¬ (false = true) by decide)] at H; exact H
                    clear H
                    have H := H1
                    clear H1
                    replace H := Option.bind_eq_some_iff.mp H
                    obtain ⟨t378, A1530, H⟩ := H
                    replace H : (some t378) = some r := H
                    have A153 := Aside0.mk A1530
                    clear A1530
                    obtain rfl := Option.some.inj H
                    have hnb154 := NB371_376.out
                    have hnc154 := NB376_371.out
                    have hcz155_0 : wr.cell? ⟨gb371, 0, none⟩ = some (.int .i64 t367) := (blk_cell BK371.out 0).trans rfl
                    have hcz155_1 : wr.cell? ⟨gb371, 1, none⟩ = some (.int .i64 t368) := (blk_cell BK371.out 1).trans rfl
                    have hcz155_2 : wr.cell? ⟨gb371, 2, none⟩ = some (.int .u8 t369) := (blk_cell BK371.out 2).trans rfl
                    have hfz155_0 := blk_frozen BK371.out 0
                    have hfz155_1 := blk_frozen BK371.out 1
                    have hfz155_2 := blk_frozen BK371.out 2
                    go_wp2_with (first | (go_at_call 3; (with_reducible refine (salvorlaw16_RegionRuns.calls k1  t378 _ A153.out).mono ?_); rintro e w156 ⟨rfl, hb⟩; have n0_ := Aside0.mk (Kd.R_below (by (with_reducible repeat (first | apply Kd.R_alloc | apply Kd.R_drewN | apply Kd.R_drew)); exact HO_9.out) hb); have n1_ := Aside0.mk (blk_below (g := gb371) (o := .cells #[.int .i64 t367, .int .i64 t368, .int .u8 t369] 26 (0, 0)) (by (with_reducible repeat (first | refine blk_drewN ?_ _ | refine blk_drew ?_ | refine blk_alloc ?_ _)); exact BK371.out) hb); have n2_ := Aside0.mk (blk_below (g := gb376) (o := .cells #[.int .i64 t372, .int .i64 t373, .int .u8 t374] 26 (0, 0)) (by (with_reducible repeat (first | refine blk_drewN ?_ _ | refine blk_drew ?_ | refine blk_alloc ?_ _)); exact BK376.out) hb); have n3_ := Aside0.mk (below_step (by repeat (first | (with_reducible first | exact HB.out | apply below_alloc | apply pw_below_drewN | apply below_drew1 | refine below_set ?_ GE371.out | refine below_set ?_ GE376.out) | exact HB.out)) hb); clear HO_9; clear BK371; clear BK376; clear HB; have HO_9 := n0_; have BK371 := n1_; have BK376 := n2_; have HB := n3_; clear n0_ n1_ n2_ n3_; (try clear hb); (try clear hb2); (try clear hk); (try clear hi)))
                    go_ret
                    exact ⟨by first | rfl | (simp [errW_none, errW_some] <;> rfl) | (simp [*, errW_none, errW_some] <;> rfl), by repeat (first | (with_reducible first | exact HB.out | apply below_alloc | apply pw_below_drewN | apply below_drew1 | refine below_set ?_ GE371.out | refine below_set ?_ GE376.out) | exact HB.out)⟩
                · rw [if_neg c143] at H
                  have c143b0 : (t369 == t366) = false := beq_eq_false_iff_ne.mpr c143
                  have c143b1 : (t369 != t366) = true := bne_iff_ne.mpr c143
                  exact absurd ((Option.some.inj H).trans HT.out) (by simp)
              · rw [if_neg c142] at H
                have c142b0 : decide (0 < t368) = false := decide_eq_false c142
                clear c142
                exact absurd ((Option.some.inj H).trans HT.out) (by simp)
            · rw [if_neg c141] at H
              have c141b0 : decide ((wrap64 (a2)) ≤ t367) = false := decide_eq_false c141
              clear c141
              exact absurd ((Option.some.inj H).trans HT.out) (by simp)
          · replace c140 := Bool.eq_false_iff.mpr c140
            subst c140
            have H1 : (if t375 = true then (if (wrap64 (t372 + t373)) ≤ (wrap64 (a2)) then (if t373 > 0 then (if t374 = t366 then ((salvorlaw16_RegionRuns.f k1).bind fun t379 => (some t379)) else (some false)) else (some false)) else (some false)) else ((salvorlaw16_RegionRuns.f k1).bind fun t380 => (some t380))) = some r := by rw [if_neg (show ¬ (false = true) by decide)] at H; exact H
            clear H
            have H := H1
            clear H1
            by_cases c157 : t375 = true
            · subst c157
              have H1 : (if (wrap64 (t372 + t373)) ≤ (wrap64 (a2)) then (if t373 > 0 then (if t374 = t366 then ((salvorlaw16_RegionRuns.f k1).bind fun t379 => (some t379)) else (some false)) else (some false)) else (some false)) = some r := by rw [if_pos rfl] at H; exact H
              clear H
              have H := H1
              clear H1
              by_cases c158 : (wrap64 (t372 + t373)) ≤ (wrap64 (a2))
              · rw [if_pos c158] at H
                have c158b0 : decide ((wrap64 (t372 + t373)) ≤ (wrap64 (a2))) = true := decide_eq_true c158
                clear c158
                by_cases c159 : t373 > 0
                · rw [if_pos c159] at H
                  have c159b0 : decide (0 < t373) = true := decide_eq_true c159
                  clear c159
                  by_cases c160 : t374 = t366
                  · rw [if_pos c160] at H
                    have c160b0 : (t374 == t366) = true := beq_iff_eq.mpr c160
                    have c160b1 : (t374 != t366) = false := bne_eq_false_iff_eq.mpr c160
                    clear c160
                    replace H := Option.bind_eq_some_iff.mp H
                    obtain ⟨t379, A1610, H⟩ := H
                    replace H : (some t379) = some r := H
                    have A161 := Aside0.mk A1610
                    clear A1610
                    obtain rfl := Option.some.inj H
                    have hnb162 := NB376_371.out
                    have hnc162 := NB371_376.out
                    have hcz163_0 : wr.cell? ⟨gb376, 0, none⟩ = some (.int .i64 t372) := (blk_cell BK376.out 0).trans rfl
                    have hcz163_1 : wr.cell? ⟨gb376, 1, none⟩ = some (.int .i64 t373) := (blk_cell BK376.out 1).trans rfl
                    have hcz163_2 : wr.cell? ⟨gb376, 2, none⟩ = some (.int .u8 t374) := (blk_cell BK376.out 2).trans rfl
                    have hfz163_0 := blk_frozen BK376.out 0
                    have hfz163_1 := blk_frozen BK376.out 1
                    have hfz163_2 := blk_frozen BK376.out 2
                    go_wp2_with (first | (go_at_call 3; (with_reducible refine (salvorlaw16_RegionRuns.calls k1  t379 _ A161.out).mono ?_); rintro e w164 ⟨rfl, hb⟩; have n0_ := Aside0.mk (Kd.R_below (by (with_reducible repeat (first | apply Kd.R_alloc | apply Kd.R_drewN | apply Kd.R_drew)); exact HO_9.out) hb); have n1_ := Aside0.mk (blk_below (g := gb371) (o := .cells #[.int .i64 t367, .int .i64 t368, .int .u8 t369] 26 (0, 0)) (by (with_reducible repeat (first | refine blk_drewN ?_ _ | refine blk_drew ?_ | refine blk_alloc ?_ _)); exact BK371.out) hb); have n2_ := Aside0.mk (blk_below (g := gb376) (o := .cells #[.int .i64 t372, .int .i64 t373, .int .u8 t374] 26 (0, 0)) (by (with_reducible repeat (first | refine blk_drewN ?_ _ | refine blk_drew ?_ | refine blk_alloc ?_ _)); exact BK376.out) hb); have n3_ := Aside0.mk (below_step (by repeat (first | (with_reducible first | exact HB.out | apply below_alloc | apply pw_below_drewN | apply below_drew1 | refine below_set ?_ GE371.out | refine below_set ?_ GE376.out) | exact HB.out)) hb); clear HO_9; clear BK371; clear BK376; clear HB; have HO_9 := n0_; have BK371 := n1_; have BK376 := n2_; have HB := n3_; clear n0_ n1_ n2_ n3_; (try clear hb); (try clear hb2); (try clear hk); (try clear hi)))
                    go_ret
                    exact ⟨by first | rfl | (simp [errW_none, errW_some] <;> rfl) | (simp [*, errW_none, errW_some] <;> rfl), by repeat (first | (with_reducible first | exact HB.out | apply below_alloc | apply pw_below_drewN | apply below_drew1 | refine below_set ?_ GE371.out | refine below_set ?_ GE376.out) | exact HB.out)⟩
                  · rw [if_neg c160] at H
                    have c160b0 : (t374 == t366) = false := beq_eq_false_iff_ne.mpr c160
                    have c160b1 : (t374 != t366) = true := bne_iff_ne.mpr c160
                    exact absurd ((Option.some.inj H).trans HT.out) (by simp)
                · rw [if_neg c159] at H
                  have c159b0 : decide (0 < t373) = false := decide_eq_false c159
                  clear c159
                  exact absurd ((Option.some.inj H).trans HT.out) (by simp)
              · rw [if_neg c158] at H
                have c158b0 : decide ((wrap64 (t372 + t373)) ≤ (wrap64 (a2))) = false := decide_eq_false c158
                clear c158
                exact absurd ((Option.some.inj H).trans HT.out) (by simp)
            · replace c157 := Bool.eq_false_iff.mpr c157
              subst c157
              have H1 : ((salvorlaw16_RegionRuns.f k1).bind fun t380 => (some t380)) = some r := by rw [if_neg (show ¬ (false = true) by decide)] at H; exact H
              clear H
              have H := H1
              clear H1
              replace H := Option.bind_eq_some_iff.mp H
              obtain ⟨t380, A1650, H⟩ := H
              replace H : (some t380) = some r := H
              have A165 := Aside0.mk A1650
              clear A1650
              obtain rfl := Option.some.inj H
              go_wp2_with (first | (go_at_call 3; (with_reducible refine (salvorlaw16_RegionRuns.calls k1  t380 _ A165.out).mono ?_); rintro e w166 ⟨rfl, hb⟩; have n0_ := Aside0.mk (Kd.R_below (by (with_reducible repeat (first | apply Kd.R_alloc | apply Kd.R_drewN | apply Kd.R_drew)); exact HO_9.out) hb); have n1_ := Aside0.mk (blk_below (g := gb371) (o := .cells #[.int .i64 t367, .int .i64 t368, .int .u8 t369] 26 (0, 0)) (by (with_reducible repeat (first | refine blk_drewN ?_ _ | refine blk_drew ?_ | refine blk_alloc ?_ _)); exact BK371.out) hb); have n2_ := Aside0.mk (blk_below (g := gb376) (o := .cells #[.int .i64 t372, .int .i64 t373, .int .u8 t374] 26 (0, 0)) (by (with_reducible repeat (first | refine blk_drewN ?_ _ | refine blk_drew ?_ | refine blk_alloc ?_ _)); exact BK376.out) hb); have n3_ := Aside0.mk (below_step (by repeat (first | (with_reducible first | exact HB.out | apply below_alloc | apply pw_below_drewN | apply below_drew1 | refine below_set ?_ GE371.out | refine below_set ?_ GE376.out) | exact HB.out)) hb); clear HO_9; clear BK371; clear BK376; clear HB; have HO_9 := n0_; have BK371 := n1_; have BK376 := n2_; have HB := n3_; clear n0_ n1_ n2_ n3_; (try clear hb); (try clear hb2); (try clear hk); (try clear hi)))
              go_ret
              exact ⟨by first | rfl | (simp [errW_none, errW_some] <;> rfl) | (simp [*, errW_none, errW_some] <;> rfl), by repeat (first | (with_reducible first | exact HB.out | apply below_alloc | apply pw_below_drewN | apply below_drew1 | refine below_set ?_ GE371.out | refine below_set ?_ GE376.out) | exact HB.out)⟩

end Go.Proofs.Ytjgkfnbfjamccaa.P
