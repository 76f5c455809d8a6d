/- Laid by a program of this session's own (wip/wprint.py, over the kit's print.py): functions of the given program as plain Lean functions, and that the program's calls come to their answers. -/
import Derived.Test.YtabmegbapfajoaaDoorPx0
import Derived.Test.YtabmegbapfajoaaDoorPx1
import Derived.Test.YtabmegbapfajoaaDoorPx2
import Derived.Test.YtabmegbapfajoaaDoorPx5
import Derived.Test.YtabmegbapfajoaaDoorPx6
import Derived.Test.YtabmegbapfajoaaDoorPx7
import Derived.Test.YtabmegbapfajoaaDoorPx8
namespace Go.Proofs.YtabmegbapfajoaaDoor.P
open Go.RowKit Go.Proofs.YtabmegbapfajoaaDoorW.PrintWords Go.Proofs.YtabmegbapfajoaaDoorW.PrintLast Go.Proofs.YtabmegbapfajoaaDoorW.PrintMore
attribute [local go_sem] max2_int min2_int max_two min_two max_three min_three max_four min_four   -- for this text's walks alone
set_option linter.unusedVariables false
set_option linter.unusedSimpArgs false

attribute [local go_sem high] eqA23
/-- The zero state. -/
def fake_new25.f : Option (Int × Int × Int × Int × Int) := some (0, 0, 0, 0, 0)
/-! ### salvorlaw23_TallyPlays: function 4 -/
def salvorlaw23_TallyPlays.l0 : Nat → List (S33) → Int → Int → Int → Int → Int → Int → Int → Int → Int → Int → Int → Int → Int → Int → Int → Int → Option (Bool)
  | 0, _, _, _, _, _, _, _, _, _, _, _, _, _, _, _, _, _ => none
  | k + 1, x0, x7, x140000, x140001, x140002, x140003, x140004, x147000, x147001, x147002, x147003, x147004, x148000, x148001, x148002, x148003, x148004 => if x7 < (x0.length : Int) then (if 0 ≤ x7 then (if (Int.tmod ((rd_T33 x0 x7).f0) 3) = 0 then ((tally_Counter_In.f x147000 x147001 x147002 x147003 x147004 ((rd_T33 x0 x7).f1) ((rd_T33 x0 x7).f2)).bind fun bt151 => ((salvorref22_In.f x148000 x148001 x148002 x148003 x148004 ((rd_T33 x0 x7).f1) ((rd_T33 x0 x7).f2)).bind fun bt158 => ((tally_Counter_Tally.f bt151.1 bt151.2.1 bt151.2.2.1 bt151.2.2.2.1 bt151.2.2.2.2).bind fun bt163 => (if (!(bt163.1 == bt158.1) || (!(bt163.2.1 == bt158.2.1) || (!(bt163.2.2.1 == bt158.2.2.1) || (!(bt163.2.2.2.1 == bt158.2.2.2.1) || (!(bt163.2.2.2.2.1 == bt158.2.2.2.2)))))) = true then (some false) else (salvorlaw23_TallyPlays.l0 k x0 (wrap64 (x7 + 1)) x140000 x140001 x140002 x140003 x140004 bt163.2.2.2.2.2.1 bt163.2.2.2.2.2.2.1 bt163.2.2.2.2.2.2.2.1 bt163.2.2.2.2.2.2.2.2.1 bt163.2.2.2.2.2.2.2.2.2 bt158.1 bt158.2.1 bt158.2.2.1 bt158.2.2.2.1 bt158.2.2.2.2))))) else (if (Int.tmod ((rd_T33 x0 x7).f0) 3) = 1 then ((tally_Counter_Out.f x147000 x147001 x147002 x147003 x147004 ((rd_T33 x0 x7).f1) ((rd_T33 x0 x7).f2)).bind fun bt175 => ((salvorref22_Out.f x148000 x148001 x148002 x148003 x148004 ((rd_T33 x0 x7).f1) ((rd_T33 x0 x7).f2)).bind fun bt182 => ((tally_Counter_Tally.f bt175.1 bt175.2.1 bt175.2.2.1 bt175.2.2.2.1 bt175.2.2.2.2).bind fun bt187 => (if (!(bt187.1 == bt182.1) || (!(bt187.2.1 == bt182.2.1) || (!(bt187.2.2.1 == bt182.2.2.1) || (!(bt187.2.2.2.1 == bt182.2.2.2.1) || (!(bt187.2.2.2.2.1 == bt182.2.2.2.2)))))) = true then (some false) else (salvorlaw23_TallyPlays.l0 k x0 (wrap64 (x7 + 1)) x140000 x140001 x140002 x140003 x140004 bt187.2.2.2.2.2.1 bt187.2.2.2.2.2.2.1 bt187.2.2.2.2.2.2.2.1 bt187.2.2.2.2.2.2.2.2.1 bt187.2.2.2.2.2.2.2.2.2 bt182.1 bt182.2.1 bt182.2.2.1 bt182.2.2.2.1 bt182.2.2.2.2))))) else ((tally_Counter_Lines.f x147000 x147001 x147002 x147003 x147004 ((rd_T33 x0 x7).f1)).bind fun bt198 => ((tally_Counter_Tally.f bt198.1 bt198.2.1 bt198.2.2.1 bt198.2.2.2.1 bt198.2.2.2.2).bind fun bt204 => (if (!(bt204.1 == x148000) || (!(bt204.2.1 == x148001) || (!(bt204.2.2.1 == x148002) || (!(bt204.2.2.2.1 == x148003) || (!(bt204.2.2.2.2.1 == ((rd_T33 x0 x7).f1))))))) = true then (some false) else (salvorlaw23_TallyPlays.l0 k x0 (wrap64 (x7 + 1)) x140000 x140001 x140002 x140003 x140004 bt204.2.2.2.2.2.1 bt204.2.2.2.2.2.2.1 bt204.2.2.2.2.2.2.2.1 bt204.2.2.2.2.2.2.2.2.1 bt204.2.2.2.2.2.2.2.2.2 x148000 x148001 x148002 x148003 ((rd_T33 x0 x7).f1))))))) else (none)) else ((tally_Text.f x148000 x148001 x148002 x148003 x148004).bind fun t214 => ((salvorref22_Text.f k x148000 x148001 x148002 x148003 x148004).bind fun t215 => (if t214.toList = t215.toList then ((tally_Text.f x140000 x140001 x140002 x140003 x140004).bind fun t216 => ((salvorref22_Text.f k x140000 x140001 x140002 x140003 x140004).bind fun t217 => (if t216.toList = t217.toList then ((salvorlaw23_TallyRuns.f).bind fun t218 => (some t218)) else (some false)))) else (some false))))
def salvorlaw23_TallyPlays.f (k : Nat) (l0 : List (S33)) (a1_0 : Int) (a1_1 : Int) (a1_2 : Int) (a1_3 : Int) (a1_4 : Int) : Option (Bool) := if (l0.length : Int) > 200 then ((salvorlaw23_TallyRuns.f).bind fun t140 => (some t140)) else ((fake_new25.f).bind fun bt141 => (salvorlaw23_TallyPlays.l0 k l0 0 a1_0 a1_1 a1_2 a1_3 a1_4 bt141.1 bt141.2.1 bt141.2.2.1 bt141.2.2.2.1 bt141.2.2.2.2 0 0 0 0 0))
theorem salvorlaw23_TallyPlays.mono_l : ∀ k, (∀ y0 y1 y2 y3 y4 y5 y6 y7 y8 y9 y10 y11 y12 y13 y14 y15 y16, LeO (salvorlaw23_TallyPlays.l0 k y0 y1 y2 y3 y4 y5 y6 y7 y8 y9 y10 y11 y12 y13 y14 y15 y16) (salvorlaw23_TallyPlays.l0 (k + 1) y0 y1 y2 y3 y4 y5 y6 y7 y8 y9 y10 y11 y12 y13 y14 y15 y16))
  | 0 => fun _ _ _ _ _ _ _ _ _ _ _ _ _ _ _ _ _ r h => by simp [salvorlaw23_TallyPlays.l0] at h
  | k + 1 => by
    have ih0 := salvorlaw23_TallyPlays.mono_l k
    · intro y0 y1 y2 y3 y4 y5 y6 y7 y8 y9 y10 y11 y12 y13 y14 y15 y16
      unfold salvorlaw23_TallyPlays.l0
      repeat' first
      | (with_reducible exact ih0 _ _ _ _ _ _ _ _ _ _ _ _ _ _ _ _ _)
      | (with_reducible exact salvorref22_Text.mono _ _ _ _ _ _)
      | (with_reducible exact LeO.refl _)
      | (with_reducible exact LeO.none _)
      | (with_reducible refine LeO.ite ?_ ?_)
      | (with_reducible refine LeO.bind ?_ (fun _ => ?_))
      | exact ih0 _ _ _ _ _ _ _ _ _ _ _ _ _ _ _ _ _
      | exact salvorref22_Text.mono _ _ _ _ _ _
      | exact LeO.none _
      | refine LeO.ite ?_ ?_
      | refine LeO.bind ?_ (fun _ => ?_)
theorem salvorlaw23_TallyPlays.mono : ∀ a0 a1 a2 a3 a4 a5 k, LeO (salvorlaw23_TallyPlays.f k a0 a1 a2 a3 a4 a5) (salvorlaw23_TallyPlays.f (k + 1) a0 a1 a2 a3 a4 a5) := by
  intro a0 a1 a2 a3 a4 a5 k
  have ih0 := salvorlaw23_TallyPlays.mono_l k
  unfold salvorlaw23_TallyPlays.f
  repeat' first
      | (with_reducible exact ih0 _ _ _ _ _ _ _ _ _ _ _ _ _ _ _ _ _)
      | (with_reducible exact salvorref22_Text.mono _ _ _ _ _ _)
      | (with_reducible exact LeO.refl _)
      | (with_reducible exact LeO.none _)
      | (with_reducible refine LeO.ite ?_ ?_)
      | (with_reducible refine LeO.bind ?_ (fun _ => ?_))
      | exact ih0 _ _ _ _ _ _ _ _ _ _ _ _ _ _ _ _ _
      | exact salvorref22_Text.mono _ _ _ _ _ _
      | exact LeO.none _
      | refine LeO.ite ?_ ?_
      | refine LeO.bind ?_ (fun _ => ?_)
def salvorlaw23_TallyPlays.T12 : Bool × List (List Nat × List Nat) := (true, [([], []), ([], []), ([0, 1], [0, 1]), ([2], [2]), ([3], [3]), ([], []), ([], []), ([5, 6], [5, 6]), ([7], [7]), ([8], [8]), ([4, 9], [4, 9])])
def salvorlaw23_TallyPlays.B12 : List Nat := [0, 0, 3, 7, 15, 0, 0, 96, 224, 480, 1023]
theorem salvorlaw23_TallyPlays.tab12 : rtab .any (opsOf Tryd.f4 12) = salvorlaw23_TallyPlays.T12 := by kernel_rfl
theorem salvorlaw23_TallyPlays.bits12 : waitsOk salvorlaw23_TallyPlays.T12.2 salvorlaw23_TallyPlays.B12 = true := by kernel_rfl
def salvorlaw23_TallyPlays.T13 : Bool × List (List Nat × List Nat) := (true, [([], []), ([], []), ([], []), ([1, 2], [1, 2]), ([3], [3]), ([4], [4]), ([], []), ([], []), ([6, 7], [6, 7]), ([8], [8]), ([9], [9]), ([0, 5, 10], [0, 5, 10]), ([11, 11, 0, 1, 2, 3, 4, 5, 6, 7, 8, 9, 10, 11], [11])])
def salvorlaw23_TallyPlays.B13 : List Nat := [0, 0, 0, 6, 14, 30, 0, 0, 192, 448, 960, 2047, 4095]
theorem salvorlaw23_TallyPlays.tab13 : rtab .any (opsOf Tryd.f4 13) = salvorlaw23_TallyPlays.T13 := by kernel_rfl
theorem salvorlaw23_TallyPlays.bits13 : waitsOk salvorlaw23_TallyPlays.T13.2 salvorlaw23_TallyPlays.B13 = true := by kernel_rfl
def salvorlaw23_TallyPlays.T15 : Bool × List (List Nat × List Nat) := (true, [([], []), ([], []), ([0, 1], [0, 1]), ([2], [2]), ([3], [3]), ([], []), ([], []), ([5, 6], [5, 6]), ([7], [7]), ([8], [8]), ([4, 9], [4, 9])])
def salvorlaw23_TallyPlays.B15 : List Nat := [0, 0, 3, 7, 15, 0, 0, 96, 224, 480, 1023]
theorem salvorlaw23_TallyPlays.tab15 : rtab .any (opsOf Tryd.f4 15) = salvorlaw23_TallyPlays.T15 := by kernel_rfl
theorem salvorlaw23_TallyPlays.bits15 : waitsOk salvorlaw23_TallyPlays.T15.2 salvorlaw23_TallyPlays.B15 = true := by kernel_rfl
def salvorlaw23_TallyPlays.T16 : Bool × List (List Nat × List Nat) := (true, [([], []), ([], []), ([], []), ([1, 2], [1, 2]), ([3], [3]), ([4], [4]), ([], []), ([], []), ([6, 7], [6, 7]), ([8], [8]), ([9], [9]), ([0, 5, 10], [0, 5, 10]), ([11, 11, 0, 1, 2, 3, 4, 5, 6, 7, 8, 9, 10, 11], [11])])
def salvorlaw23_TallyPlays.B16 : List Nat := [0, 0, 0, 6, 14, 30, 0, 0, 192, 448, 960, 2047, 4095]
theorem salvorlaw23_TallyPlays.tab16 : rtab .any (opsOf Tryd.f4 16) = salvorlaw23_TallyPlays.T16 := by kernel_rfl
theorem salvorlaw23_TallyPlays.bits16 : waitsOk salvorlaw23_TallyPlays.T16.2 salvorlaw23_TallyPlays.B16 = true := by kernel_rfl
def salvorlaw23_TallyPlays.T19 : Bool × List (List Nat × List Nat) := (true, [([], []), ([0], [0]), ([], []), ([2, 1], [2]), ([1, 3], [1, 3]), ([4, 3], [4]), ([5], [5]), ([6, 5, 5], [5, 6]), ([5], [5]), ([8, 7, 5], [5, 8]), ([7, 9, 5], [5, 7, 9]), ([5, 10], [5, 10]), ([11, 9], [11]), ([12, 12], [12]), ([12, 13], [12, 13]), ([14, 13, 0, 1, 2, 3, 4, 5, 6, 7, 8, 9, 10, 11, 12, 13, 14], [14])])
def salvorlaw23_TallyPlays.B19 : List Nat := [0, 1, 0, 7, 15, 31, 63, 127, 63, 511, 1023, 2047, 4095, 8191, 16383, 32767]
theorem salvorlaw23_TallyPlays.tab19 : rtab .any (opsOf Tryd.f4 19) = salvorlaw23_TallyPlays.T19 := by kernel_rfl
theorem salvorlaw23_TallyPlays.bits19 : waitsOk salvorlaw23_TallyPlays.T19.2 salvorlaw23_TallyPlays.B19 = true := by kernel_rfl
set_option maxHeartbeats 8000000 in
set_option maxRecDepth 100000 in
theorem salvorlaw23_TallyPlays.calls (k : Nat) (A0 : Option Addr) (c0 : Nat) (l0 : List (S33)) (a1_0 : Int) (a1_1 : Int) (a1_2 : Int) (a1_3 : Int) (a1_4 : Int) (r : Bool) (w : World) (hr0 : Kd.C k33 w A0 l0.length l0) (hc0 : l0.length ≤ c0) (h : salvorlaw23_TallyPlays.f k l0 a1_0 a1_1 a1_2 a1_3 a1_4 = some r) (htab : TabAt w) (hrt : r = true) :
    Calls Tryd.prog 4 #[.slice A0 l0.length c0, .agg #[.int .i64 a1_0, .int .i64 a1_1, .int .i64 a1_2, .int .i64 a1_3, .int .i64 a1_4]] w fun e w' => e = .returned (.bool r) ∧ Below w.heap.size w w' := by
  have HT := Aside0.mk hrt
  clear hrt
  have HTAB := Aside0.mk htab
  clear htab
  have hu23 := Tryd.underlying23
  have HR0 := Aside0.mk hr0
  have HC0 := Aside0.mk hc0
  clear hr0 hc0
  have HB := Aside0.mk (Below.refl w.heap.size w)
  have H : (if (l0.length : Int) > 200 then ((salvorlaw23_TallyRuns.f).bind fun t140 => (some t140)) else ((fake_new25.f).bind fun bt141 => (salvorlaw23_TallyPlays.l0 k l0 0 a1_0 a1_1 a1_2 a1_3 a1_4 bt141.1 bt141.2.1 bt141.2.2.1 bt141.2.2.2.1 bt141.2.2.2.2 0 0 0 0 0))) = some r := h
  clear h
  by_cases c3 : (l0.length : Int) > 200
  · rw [if_pos c3] at H
    have c3b0 : decide (200 < (l0.length : Int)) = true := decide_eq_true c3
    have c3b1 : decide (200 < l0.length) = true := decide_eq_true (by omega)
    clear c3
    replace H := Option.bind_eq_some_iff.mp H
    obtain ⟨t140, A40, H⟩ := H
    replace H : (some t140) = some r := H
    have A4 := Aside0.mk A40
    clear A40
    obtain rfl := Option.some.inj H
    go_enter Tryd.func4, Tryd.ntmps4
    go_wp2_with (first | ((with_reducible refine gate_dst (N := 3) rfl ?_); refine box_e 3 #[.int .i64 a1_0, .int .i64 a1_1, .int .i64 a1_2, .int .i64 a1_3, .int .i64 a1_4] 23 ?_; intro gb139 hg w5 hbox hb; have BK139 := Aside0.mk hbox; have GW139 := bg_ HB hg; have GE139 := bg_ HB hg; replace HB := bs_ HB hb; clear hb hbox hg) | ((with_reducible refine gate_callee (f := 3) rfl ?_); refine gl_ (some 11) rfl rfl Tryd.func3 (by kernel_rfl) rfl #[] rfl ?_; (with_reducible refine (salvorlaw23_TallyRuns.calls  t140 _ A4.out ?tb0_).mono ?_); (case tb0_ => exact tb_ HTAB HB); rintro e w6 ⟨rfl, hb⟩; refine ⟨_, rfl, ?_⟩; replace BK139 := bb_ BK139 hb; replace HB := bs_ HB hb; (try clear hb); (try clear hb2); (try clear hk); (try clear hi)))
    go_ret
    exact ⟨by first | rfl | (simp [errW_none, errW_some] <;> rfl) | (simp [*, errW_none, errW_some] <;> rfl), bh_ HB⟩
  · rw [if_neg c3] at H
    have c3b0 : decide (200 < (l0.length : Int)) = false := decide_eq_false c3
    have c3b1 : decide (200 < l0.length) = false := decide_eq_false (by omega)
    clear c3
    replace H := Option.bind_eq_some_iff.mp H
    obtain ⟨⟨t141, t142, t143, t144, t145⟩, A70, H⟩ := H
    replace H : (salvorlaw23_TallyPlays.l0 k l0 0 a1_0 a1_1 a1_2 a1_3 a1_4 t141 t142 t143 t144 t145 0 0 0 0 0) = some r := H
    have A7 := Aside0.mk A70
    clear A70
    have H' := Aside0.mk H
    clear H
    go_enter Tryd.func4, Tryd.ntmps4
    go_wp2_with (first | ((with_reducible refine gate_dst (N := 3) rfl ?_); refine box_e 3 #[.int .i64 a1_0, .int .i64 a1_1, .int .i64 a1_2, .int .i64 a1_3, .int .i64 a1_4] 23 ?_; intro gb139 hg w8 hbox hb; have BK139 := Aside0.mk hbox; have GW139 := bg_ HB hg; have GE139 := bg_ HB hg; replace HB := bs_ HB hb; clear hb hbox hg) | ((with_reducible refine gate_dst (N := 5) rfl ?_); refine box_e 5 #[.int .i64 0, .int .i64 0, .int .i64 0, .int .i64 0, .int .i64 0] 25 ?_; intro g146 hg w9 hbox hb2; have hi : IsS25 w w9 g146 t141 t142 t143 t144 t145 := (by have he_ := A7.out; simp only [fake_new25.f, Option.some.injEq, Prod.mk.injEq] at he_; obtain ⟨rfl, rfl, rfl, rfl, rfl⟩ := he_; exact ⟨hbox, by rw [hg]; exact below_size (bh_ HB)⟩); have hb := (bs_ HB hb2).out; clear hbox hg; have HI146 := Aside0.mk (hi); have NB146_139 := Aside0.mk (IsS25.ne_blk hi (blk_below (bq_ BK139) hb2) (by decide)); have NB139_146 := Aside0.mk (Ne.symm (IsS25.ne_blk hi (blk_below (bq_ BK139) hb2) (by decide))); replace BK139 := Aside0.mk (blk_below (bq_ BK139) hb2); replace HB := Aside0.mk (hb); (try clear hb); (try clear hb2); (try clear hk); (try clear hi)) | ((with_reducible refine gate_dst (N := 6) rfl ?_); refine box_e 6 #[.int .i64 0, .int .i64 0, .int .i64 0, .int .i64 0, .int .i64 0] 23 ?_; intro gb147 hg w10 hbox hb; have n0_ := bb_ BK139 hb; have n1_ := Aside0.mk (IsS25.below (by repeat (first | (with_reducible first | exact HI146.out | apply IsS25.alloc | apply IsS25.drewN | apply IsS25.drew | apply IsS25.set_0 | apply IsS25.set_1 | apply IsS25.set_2 | apply IsS25.set_3 | apply IsS25.set_4 | refine IsS25.far ?_ NB146_139.out _) | exact HI146.out)) hb); have n2_ := Aside0.mk (below_step (by repeat (first | (with_reducible first | exact HB.out | apply below_alloc | apply pw_below_drewN | apply below_drew1 | refine below_set ?_ (IsS25.ge HI146.out) | refine below_set ?_ GE139.out) | exact HB.out)) hb); have n3_ := Aside0.mk hbox; have n4_ := Aside0.mk ((by rw [hg]; exact (below_size (by repeat (first | (with_reducible first | exact HB.out | apply below_alloc | apply pw_below_drewN | apply below_drew1 | refine below_set ?_ (IsS25.ge HI146.out) | refine below_set ?_ GE139.out) | exact HB.out))) : w.heap.size ≤ gb147)); have n5_ := Aside0.mk ((by rw [hg]; exact (below_size (by repeat (first | (with_reducible first | exact HB.out | apply below_alloc | apply pw_below_drewN | apply below_drew1 | refine below_set ?_ (IsS25.ge HI146.out) | refine below_set ?_ GE139.out) | exact HB.out))) : w.heap.size ≤ gb147)); have n6_ := bn_ BK139 hg; have n7_ := bm_ BK139 hg; have n8_ := Aside0.mk ((by rw [hg]; exact Nat.ne_of_lt (IsS25.lt (show IsS25 w _ g146 t141 t142 t143 t144 t145 from by repeat (first | (with_reducible first | exact HI146.out | apply IsS25.alloc | apply IsS25.drewN | apply IsS25.drew | apply IsS25.set_0 | apply IsS25.set_1 | apply IsS25.set_2 | apply IsS25.set_3 | apply IsS25.set_4 | refine IsS25.far ?_ NB146_139.out _) | exact HI146.out))) : g146 ≠ gb147)); have n9_ := Aside0.mk ((by rw [hg]; exact Nat.ne_of_gt (IsS25.lt (show IsS25 w _ g146 t141 t142 t143 t144 t145 from by repeat (first | (with_reducible first | exact HI146.out | apply IsS25.alloc | apply IsS25.drewN | apply IsS25.drew | apply IsS25.set_0 | apply IsS25.set_1 | apply IsS25.set_2 | apply IsS25.set_3 | apply IsS25.set_4 | refine IsS25.far ?_ NB146_139.out _) | exact HI146.out))) : gb147 ≠ g146)); clear BK139; clear HI146; clear HB; have BK139 := n0_; have HI146 := n1_; have HB := n2_; have BK147 := n3_; have GW147 := n4_; have GE147 := n5_; have NB139_147 := n6_; have NB147_139 := n7_; have NB146_147 := n8_; have NB147_146 := n9_; clear n0_ n1_ n2_ n3_ n4_ n5_ n6_ n7_ n8_ n9_; clear hb hbox hg))
    go_loopg [7] k (fun kq v7 w' => ∃ (x7_1 : Int) (x147000_1 : Int) (x147001_1 : Int) (x147002_1 : Int) (x147003_1 : Int) (x147004_1 : Int) (x148000_1 : Int) (x148001_1 : Int) (x148002_1 : Int) (x148003_1 : Int) (x148004_1 : Int), v7 = .int .i64 x7_1 ∧ Aside0 (salvorlaw23_TallyPlays.l0 kq l0 x7_1 a1_0 a1_1 a1_2 a1_3 a1_4 x147000_1 x147001_1 x147002_1 x147003_1 x147004_1 x148000_1 x148001_1 x148002_1 x148003_1 x148004_1 = some r) ∧ Aside0 (kq ≤ k) ∧ Aside0 (w'.heap[gb139]? = some (.cells #[.int .i64 a1_0, .int .i64 a1_1, .int .i64 a1_2, .int .i64 a1_3, .int .i64 a1_4] 23 (0, 0))) ∧ Aside0 (w'.heap[gb147]? = some (.cells #[.int .i64 x148000_1, .int .i64 x148001_1, .int .i64 x148002_1, .int .i64 x148003_1, .int .i64 x148004_1] 23 (0, 0))) ∧ Aside0 (IsS25 w w' g146 x147000_1 x147001_1 x147002_1 x147003_1 x147004_1) ∧ Aside0 (Below w.heap.size w w'))
    case atStart => exact ⟨(0), (t141), (t142), (t143), (t144), (t145), (0), (0), (0), (0), (0), (by first | rfl | (simp; done) | (simp [*]; done)), H', ⟨Nat.le_refl _⟩, ⟨by (with_reducible repeat (first | refine blk_drewN ?_ _ | refine blk_drew ?_ | refine blk_alloc ?_ _)); exact BK139.out⟩, ⟨by (with_reducible repeat (first | refine blk_drewN ?_ _ | refine blk_drew ?_ | refine blk_alloc ?_ _)); exact BK147.out⟩, ⟨by repeat (first | (with_reducible first | exact HI146.out | apply IsS25.alloc | apply IsS25.drewN | apply IsS25.drew | apply IsS25.set_0 | apply IsS25.set_1 | apply IsS25.set_2 | apply IsS25.set_3 | apply IsS25.set_4 | refine IsS25.far ?_ NB146_139.out _ | refine IsS25.far ?_ NB146_147.out _) | exact HI146.out)⟩, ⟨by repeat (first | (with_reducible first | exact HB.out | apply below_alloc | apply pw_below_drewN | apply below_drew1 | refine below_set ?_ (IsS25.ge HI146.out) | refine below_set ?_ GE139.out | refine below_set ?_ GE147.out) | exact HB.out)⟩⟩
    case round =>
      clear H'
      try clear p2
      try clear c3
      try clear c3b0
      try clear c3b1
      try clear c4
      try clear c5
      obtain ⟨x7_1, x147000_1, x147001_1, x147002_1, x147003_1, x147004_1, x148000_1, x148001_1, x148002_1, x148003_1, x148004_1, rfl, HA, HK1, BK139, BK147, HI146, HB⟩ := hrel
      cases gk with
      | zero => exact absurd HA.out (by simp [salvorlaw23_TallyPlays.l0])
      | succ k1 =>
        have H := HA.out
        clear HA
        simp only [salvorlaw23_TallyPlays.l0] at H
        by_cases c11 : x7_1 < (l0.length : Int)
        · rw [if_pos c11] at H
          have c11b0 : decide (x7_1 < (l0.length : Int)) = true := decide_eq_true c11
          clear c11
          by_cases c12 : 0 ≤ x7_1
          · rw [if_pos c12] at H
            have c12b0 : decide (0 ≤ x7_1) = true := decide_eq_true c12
            clear c12
            by_cases c13 : (Int.tmod ((rd_T33 l0 x7_1).f0) 3) = 0
            · rw [if_pos c13] at H
              have c13b0 : ((Int.tmod ((rd_T33 l0 x7_1).f0) 3) == 0) = true := beq_iff_eq.mpr c13
              have c13b1 : ((Int.tmod ((rd_T33 l0 x7_1).f0) 3) != 0) = false := bne_eq_false_iff_eq.mpr c13
              clear c13
              replace H := Option.bind_eq_some_iff.mp H
              obtain ⟨⟨t151, t152, t153, t154, t155⟩, A140, H⟩ := H
              replace H : ((salvorref22_In.f x148000_1 x148001_1 x148002_1 x148003_1 x148004_1 ((rd_T33 l0 x7_1).f1) ((rd_T33 l0 x7_1).f2)).bind fun bt158 => ((tally_Counter_Tally.f t151 t152 t153 t154 t155).bind fun bt163 => (if (!(bt163.1 == bt158.1) || (!(bt163.2.1 == bt158.2.1) || (!(bt163.2.2.1 == bt158.2.2.1) || (!(bt163.2.2.2.1 == bt158.2.2.2.1) || (!(bt163.2.2.2.2.1 == bt158.2.2.2.2)))))) = true then (some false) else (salvorlaw23_TallyPlays.l0 k1 l0 (wrap64 (x7_1 + 1)) a1_0 a1_1 a1_2 a1_3 a1_4 bt163.2.2.2.2.2.1 bt163.2.2.2.2.2.2.1 bt163.2.2.2.2.2.2.2.1 bt163.2.2.2.2.2.2.2.2.1 bt163.2.2.2.2.2.2.2.2.2 bt158.1 bt158.2.1 bt158.2.2.1 bt158.2.2.2.1 bt158.2.2.2.2)))) = some r := H
              have A14 := Aside0.mk A140
              clear A140
              replace H := Option.bind_eq_some_iff.mp H
              obtain ⟨⟨t158, t159, t160, t161, t162⟩, A150, H⟩ := H
              replace H : ((tally_Counter_Tally.f t151 t152 t153 t154 t155).bind fun bt163 => (if (!(bt163.1 == t158) || (!(bt163.2.1 == t159) || (!(bt163.2.2.1 == t160) || (!(bt163.2.2.2.1 == t161) || (!(bt163.2.2.2.2.1 == t162)))))) = true then (some false) else (salvorlaw23_TallyPlays.l0 k1 l0 (wrap64 (x7_1 + 1)) a1_0 a1_1 a1_2 a1_3 a1_4 bt163.2.2.2.2.2.1 bt163.2.2.2.2.2.2.1 bt163.2.2.2.2.2.2.2.1 bt163.2.2.2.2.2.2.2.2.1 bt163.2.2.2.2.2.2.2.2.2 t158 t159 t160 t161 t162))) = some r := H
              have A15 := Aside0.mk A150
              clear A150
              replace H := Option.bind_eq_some_iff.mp H
              obtain ⟨⟨t163, t164, t165, t166, t167, t168, t169, t170, t171, t172⟩, A160, H⟩ := H
              replace H : (if (!(t163 == t158) || (!(t164 == t159) || (!(t165 == t160) || (!(t166 == t161) || (!(t167 == t162)))))) = true then (some false) else (salvorlaw23_TallyPlays.l0 k1 l0 (wrap64 (x7_1 + 1)) a1_0 a1_1 a1_2 a1_3 a1_4 t168 t169 t170 t171 t172 t158 t159 t160 t161 t162)) = some r := H
              have A16 := Aside0.mk A160
              clear A160
              by_cases c17 : (!(t163 == t158) || (!(t164 == t159) || (!(t165 == t160) || (!(t166 == t161) || (!(t167 == t162)))))) = true
              · rw [if_pos c17] at H
                have c17b0 : (!(t163 == t158) || (!(t164 == t159) || (!(t165 == t160) || (!(t166 == t161) || (!(t167 == t162)))))) = true := c17
                clear c17
                exact absurd ((Option.some.inj H).trans HT.out) (by simp)
              · rw [if_neg c17] at H
                have c17b0 : (!(t163 == t158) || (!(t164 == t159) || (!(t165 == t160) || (!(t166 == t161) || (!(t167 == t162)))))) = false := by simpa using c17
                clear c17
                have H' := Aside0.mk H
                clear H
                have p148 : 0 ≤ (x7_1 : Int) := of_decide_eq_true (by first | (with_reducible assumption) | assumption)
                have q148 : x7_1 < (l0.length : Int) := of_decide_eq_true (by first | (with_reducible assumption) | assumption)
                obtain ⟨ad148, e148, hx148_0, hx148_1, hx148_2⟩ := at_T33 HR0.out x7_1 p148 q148
                cases e148
                replace hx148_0 := (HB.out.cell (World.block_lt_of_cell? w _ hx148_0)).trans hx148_0
                replace hx148_1 := (HB.out.cell (World.block_lt_of_cell? w _ hx148_1)).trans hx148_1
                replace hx148_2 := (HB.out.cell (World.block_lt_of_cell? w _ hx148_2)).trans hx148_2
                replace p148 := eq_true p148
                replace q148 := eq_true q148
                try go_wp2
                replace BK139 := Aside0.mk (blk_drew BK139.out)
                replace BK147 := Aside0.mk (blk_drew BK147.out)
                replace HI146 := Aside0.mk (IsS25.drew HI146.out)
                replace HB := Aside0.mk (below_drew1 HB.out)
                have p149 : 0 ≤ (x7_1 : Int) := of_decide_eq_true (by first | (with_reducible assumption) | assumption)
                have q149 : x7_1 < (l0.length : Int) := of_decide_eq_true (by first | (with_reducible assumption) | assumption)
                obtain ⟨ad149, e149, hx149_0, hx149_1, hx149_2⟩ := at_T33 HR0.out x7_1 p149 q149
                have hw149_2 := hx149_2
                have hw149_1 := hx149_1
                have hw149_0 := hx149_0
                obtain rfl : ad148 = ad149 := (by injection e149)
                replace hx149_0 := (HB.out.cell (World.block_lt_of_cell? w _ hx149_0)).trans hx149_0
                replace hx149_1 := (HB.out.cell (World.block_lt_of_cell? w _ hx149_1)).trans hx149_1
                replace hx149_2 := (HB.out.cell (World.block_lt_of_cell? w _ hx149_2)).trans hx149_2
                replace p149 := eq_true p149
                replace q149 := eq_true q149
                have p150 : 0 ≤ (x7_1 : Int) := of_decide_eq_true (by first | (with_reducible assumption) | assumption)
                have q150 : x7_1 < (l0.length : Int) := of_decide_eq_true (by first | (with_reducible assumption) | assumption)
                obtain ⟨ad150, e150, hx150_0, hx150_1, hx150_2⟩ := at_T33 HR0.out x7_1 p150 q150
                have hw150_2 := hx150_2
                have hw150_1 := hx150_1
                have hw150_0 := hx150_0
                obtain rfl : ad148 = ad150 := (by injection e150)
                replace hx150_0 := (HB.out.cell (World.block_lt_of_cell? w _ hx150_0)).trans hx150_0
                replace hx150_1 := (HB.out.cell (World.block_lt_of_cell? w _ hx150_1)).trans hx150_1
                replace hx150_2 := (HB.out.cell (World.block_lt_of_cell? w _ hx150_2)).trans hx150_2
                replace p150 := eq_true p150
                replace q150 := eq_true q150
                refine start_ (n := 11) (S := fun w' => w'.cell? (ad148.add ((x7_1).toNat * 3)) = some (.int .u8 ((rd_T33 l0 x7_1).f0)) ∧ w'.cell? ⟨(ad148.add ((x7_1).toNat * 3)).block, (ad148.add ((x7_1).toNat * 3)).off + 1, none⟩ = some (.int .i64 ((rd_T33 l0 x7_1).f1)) ∧ w'.cell? ⟨(ad148.add ((x7_1).toNat * 3)).block, (ad148.add ((x7_1).toNat * 3)).off + 2, none⟩ = some (.int .i64 ((rd_T33 l0 x7_1).f2)) ∧ w'.cell? (ad148.add ((x7_1).toNat * 3)) = some (.int .u8 ((rd_T33 l0 x7_1).f0)) ∧ w'.cell? ⟨(ad148.add ((x7_1).toNat * 3)).block, (ad148.add ((x7_1).toNat * 3)).off + 1, none⟩ = some (.int .i64 ((rd_T33 l0 x7_1).f1)) ∧ w'.cell? ⟨(ad148.add ((x7_1).toNat * 3)).block, (ad148.add ((x7_1).toNat * 3)).off + 2, none⟩ = some (.int .i64 ((rd_T33 l0 x7_1).f2))) (ds := []) #[false, false, false, false, false, false, false, false, false, false, false] (by kernel_rfl) rfl rfl ⟨((HB.out.cell (World.block_lt_of_cell? w _ hw149_0)).trans hw149_0), ((HB.out.cell (World.block_lt_of_cell? w _ hw149_1)).trans hw149_1), ((HB.out.cell (World.block_lt_of_cell? w _ hw149_2)).trans hw149_2), ((HB.out.cell (World.block_lt_of_cell? w _ hw150_0)).trans hw150_0), ((HB.out.cell (World.block_lt_of_cell? w _ hw150_1)).trans hw150_1), ((HB.out.cell (World.block_lt_of_cell? w _ hw150_2)).trans hw150_2)⟩ (fun hHeld => ?_); refine with_tabW salvorlaw23_TallyPlays.tab12 salvorlaw23_TallyPlays.bits12 (fun HT_ HW_ => ?_)
                generalize wr.drew = w18 at BK139 BK147 HI146 HB hx149_0 hx149_1 hx149_2 hx150_0 hx150_1 hx150_2 hHeld ⊢
                refine pu_ 0 38 (lb_ 11 1) rfl rfl (any_of HT_.out (by kernel_rfl)) ?_
                refine pu_ 1 39 (lb_ 11 3) rfl rfl (any_of HT_.out (by kernel_rfl)) ?_
                refine pu_ 2 40 (lb_ 11 7) rfl rfl (any_of HT_.out (by kernel_rfl)) ?_
                refine pu_ 3 41 (lb_ 11 15) rfl rfl (any_of HT_.out (by kernel_rfl)) ?_
                refine pu_ 5 43 (lb_ 11 47) rfl rfl (any_of HT_.out (by kernel_rfl)) ?_
                refine pu_ 6 44 (lb_ 11 111) rfl rfl (any_of HT_.out (by kernel_rfl)) ?_
                refine pu_ 7 45 (lb_ 11 239) rfl rfl (any_of HT_.out (by kernel_rfl)) ?_
                refine pu_ 8 46 (lb_ 11 495) rfl rfl (any_of HT_.out (by kernel_rfl)) ?_
                refine take_ (i := 4) (N := some 42) (v := ?_) (a' := ?_) #[true, true, true, true, true, true, true, true, true, false, false] rfl rfl (take_ofW HT_.out HW_.out (by kernel_rfl)) (fun _ _ _ h => h) (Or.inl ⟨by rfl, ?_⟩) hHeld ?_ ?_
                rotate_left
                · rintro w' ⟨s0, s1, s2, s3, s4, s5⟩
                  go_simp
                  with_reducible rfl
                rotate_left
                · simp only [Act.put, List.setIfInBounds_toArray, List.set_cons_zero, List.set_cons_succ, i64_w, i32_w]
                  rfl
                refine take_ (i := 9) (N := some 47) (v := ?_) (a' := ?_) #[true, true, true, true, true, true, true, true, true, true, false] rfl rfl (take_ofW HT_.out HW_.out (by kernel_rfl)) (fun _ _ _ h => h) (Or.inl ⟨by rfl, ?_⟩) hHeld ?_ ?_
                rotate_left
                · rintro w' ⟨s0, s1, s2, s3, s4, s5⟩
                  go_simp
                  with_reducible rfl
                rotate_left
                · simp only [Act.put, List.setIfInBounds_toArray, List.set_cons_zero, List.set_cons_succ, i64_w, i32_w]
                  rfl
                refine one_ (i := 10) (N := some 48) #[true, true, true, true, true, true, true, true, true, true, true] rfl rfl (one_of HT_.out (by kernel_rfl)) (by decide) (fun K hK => ?_)
                refine gq_ Tryd.func6 (by kernel_rfl) rfl #[.pointer (some ⟨g146, 0, none⟩), .int .i64 ((rd_T33 l0 x7_1).f1), .int .i64 ((rd_T33 l0 x7_1).f2)] (by rfl) rfl rfl ?_
                with_reducible refine (tally_Counter_In.calls g146 x147000_1 x147001_1 x147002_1 x147003_1 x147004_1 ((rd_T33 l0 x7_1).f1) ((rd_T33 l0 x7_1).f2) t151 t152 t153 t154 t155 w _ ?side1 ?side2 A14.out).mono ?_
                (case side1 => repeat (first | (with_reducible first | exact HI146.out | apply IsS25.alloc | apply IsS25.drewN | apply IsS25.drew | apply IsS25.set_0 | apply IsS25.set_1 | apply IsS25.set_2 | apply IsS25.set_3 | apply IsS25.set_4 | refine IsS25.far ?_ NB146_139.out _ | refine IsS25.far ?_ NB146_147.out _) | exact HI146.out))
                (case side2 => repeat (first | (with_reducible first | exact HB.out | apply below_alloc | apply pw_below_drewN | apply below_drew1 | refine below_set ?_ (IsS25.ge HI146.out) | refine below_set ?_ GE139.out | refine below_set ?_ GE147.out) | exact HB.out))
                rintro e w19 ⟨rfl, hi, hb, hk⟩
                refine ⟨_, rfl, ?_⟩
                replace BK139 := Aside0.mk (KeepBut.blk hk (g' := gb139) (o := .cells #[.int .i64 a1_0, .int .i64 a1_1, .int .i64 a1_2, .int .i64 a1_3, .int .i64 a1_4] 23 (0, 0)) (bq_ BK139) NB139_146.out (by simp))
                replace BK147 := Aside0.mk (KeepBut.blk hk (g' := gb147) (o := .cells #[.int .i64 x148000_1, .int .i64 x148001_1, .int .i64 x148002_1, .int .i64 x148003_1, .int .i64 x148004_1] 23 (0, 0)) (bq_ BK147) NB147_146.out (by simp))
                replace HB := Aside0.mk (hb)
                replace HI146 := Aside0.mk (hi)
                (try clear hb)
                (try clear hb2)
                (try clear hk)
                (try clear hi)
                refine hK.out _ _ ⟨((HB.out.cell (World.block_lt_of_cell? w _ hw149_0)).trans hw149_0), ((HB.out.cell (World.block_lt_of_cell? w _ hw149_1)).trans hw149_1), ((HB.out.cell (World.block_lt_of_cell? w _ hw149_2)).trans hw149_2), ((HB.out.cell (World.block_lt_of_cell? w _ hw150_0)).trans hw150_0), ((HB.out.cell (World.block_lt_of_cell? w _ hw150_1)).trans hw150_1), ((HB.out.cell (World.block_lt_of_cell? w _ hw150_2)).trans hw150_2)⟩ (fun hHeld => ?_)
                clear hK K
                refine norm_ (a' := ?_) ?_ ?_
                rotate_left
                · show Act.put _ (some 48) _ = _
                  simp only [Act.put, List.setIfInBounds_toArray, List.set_cons_zero, List.set_cons_succ, i64_w, i32_w]
                  rfl
                refine done_ (done_of HT_.out (by kernel_rfl)) ?_
                try go_wp2
                replace BK139 := Aside0.mk (blk_drew BK139.out)
                replace BK147 := Aside0.mk (blk_drew BK147.out)
                replace HI146 := Aside0.mk (IsS25.drew HI146.out)
                replace HB := Aside0.mk (below_drew1 HB.out)
                have p156 : 0 ≤ (x7_1 : Int) := of_decide_eq_true (by first | (with_reducible assumption) | assumption)
                have q156 : x7_1 < (l0.length : Int) := of_decide_eq_true (by first | (with_reducible assumption) | assumption)
                obtain ⟨ad156, e156, hx156_0, hx156_1, hx156_2⟩ := at_T33 HR0.out x7_1 p156 q156
                have hw156_2 := hx156_2
                have hw156_1 := hx156_1
                have hw156_0 := hx156_0
                obtain rfl : ad148 = ad156 := (by injection e156)
                replace hx156_0 := (HB.out.cell (World.block_lt_of_cell? w _ hx156_0)).trans hx156_0
                replace hx156_1 := (HB.out.cell (World.block_lt_of_cell? w _ hx156_1)).trans hx156_1
                replace hx156_2 := (HB.out.cell (World.block_lt_of_cell? w _ hx156_2)).trans hx156_2
                replace p156 := eq_true p156
                replace q156 := eq_true q156
                have p157 : 0 ≤ (x7_1 : Int) := of_decide_eq_true (by first | (with_reducible assumption) | assumption)
                have q157 : x7_1 < (l0.length : Int) := of_decide_eq_true (by first | (with_reducible assumption) | assumption)
                obtain ⟨ad157, e157, hx157_0, hx157_1, hx157_2⟩ := at_T33 HR0.out x7_1 p157 q157
                have hw157_2 := hx157_2
                have hw157_1 := hx157_1
                have hw157_0 := hx157_0
                obtain rfl : ad148 = ad157 := (by injection e157)
                replace hx157_0 := (HB.out.cell (World.block_lt_of_cell? w _ hx157_0)).trans hx157_0
                replace hx157_1 := (HB.out.cell (World.block_lt_of_cell? w _ hx157_1)).trans hx157_1
                replace hx157_2 := (HB.out.cell (World.block_lt_of_cell? w _ hx157_2)).trans hx157_2
                replace p157 := eq_true p157
                replace q157 := eq_true q157
                refine start_ (n := 13) (S := fun w' => w'.cell? ⟨gb147, 0, none⟩ = some (.int .i64 x148000_1) ∧ w'.cell? ⟨gb147, 1, none⟩ = some (.int .i64 x148001_1) ∧ w'.cell? ⟨gb147, 2, none⟩ = some (.int .i64 x148002_1) ∧ w'.cell? ⟨gb147, 3, none⟩ = some (.int .i64 x148003_1) ∧ w'.cell? ⟨gb147, 4, none⟩ = some (.int .i64 x148004_1) ∧ w'.cell? (ad148.add ((x7_1).toNat * 3)) = some (.int .u8 ((rd_T33 l0 x7_1).f0)) ∧ w'.cell? ⟨(ad148.add ((x7_1).toNat * 3)).block, (ad148.add ((x7_1).toNat * 3)).off + 1, none⟩ = some (.int .i64 ((rd_T33 l0 x7_1).f1)) ∧ w'.cell? ⟨(ad148.add ((x7_1).toNat * 3)).block, (ad148.add ((x7_1).toNat * 3)).off + 2, none⟩ = some (.int .i64 ((rd_T33 l0 x7_1).f2)) ∧ w'.cell? (ad148.add ((x7_1).toNat * 3)) = some (.int .u8 ((rd_T33 l0 x7_1).f0)) ∧ w'.cell? ⟨(ad148.add ((x7_1).toNat * 3)).block, (ad148.add ((x7_1).toNat * 3)).off + 1, none⟩ = some (.int .i64 ((rd_T33 l0 x7_1).f1)) ∧ w'.cell? ⟨(ad148.add ((x7_1).toNat * 3)).block, (ad148.add ((x7_1).toNat * 3)).off + 2, none⟩ = some (.int .i64 ((rd_T33 l0 x7_1).f2))) (ds := [12]) #[false, false, false, false, false, false, false, false, false, false, false, false, false] (by kernel_rfl) rfl rfl ⟨(blk_cell BK147.out 0).trans rfl, (blk_cell BK147.out 1).trans rfl, (blk_cell BK147.out 2).trans rfl, (blk_cell BK147.out 3).trans rfl, (blk_cell BK147.out 4).trans rfl, ((HB.out.cell (World.block_lt_of_cell? w _ hw156_0)).trans hw156_0), ((HB.out.cell (World.block_lt_of_cell? w _ hw156_1)).trans hw156_1), ((HB.out.cell (World.block_lt_of_cell? w _ hw156_2)).trans hw156_2), ((HB.out.cell (World.block_lt_of_cell? w _ hw157_0)).trans hw157_0), ((HB.out.cell (World.block_lt_of_cell? w _ hw157_1)).trans hw157_1), ((HB.out.cell (World.block_lt_of_cell? w _ hw157_2)).trans hw157_2)⟩ (fun hHeld => ?_); refine with_tabW salvorlaw23_TallyPlays.tab13 salvorlaw23_TallyPlays.bits13 (fun HT_ HW_ => ?_)
                generalize w19.drew = w20 at BK139 BK147 HI146 HB hx156_0 hx156_1 hx156_2 hx157_0 hx157_1 hx157_2 hHeld ⊢
                refine pu_ 1 50 (lb_ 13 2) rfl rfl (any_of HT_.out (by kernel_rfl)) ?_
                refine pu_ 2 51 (lb_ 13 6) rfl rfl (any_of HT_.out (by kernel_rfl)) ?_
                refine pu_ 3 52 (lb_ 13 14) rfl rfl (any_of HT_.out (by kernel_rfl)) ?_
                refine pu_ 4 53 (lb_ 13 30) rfl rfl (any_of HT_.out (by kernel_rfl)) ?_
                refine pu_ 6 55 (lb_ 13 94) rfl rfl (any_of HT_.out (by kernel_rfl)) ?_
                refine pu_ 7 56 (lb_ 13 222) rfl rfl (any_of HT_.out (by kernel_rfl)) ?_
                refine pu_ 8 57 (lb_ 13 478) rfl rfl (any_of HT_.out (by kernel_rfl)) ?_
                refine pu_ 9 58 (lb_ 13 990) rfl rfl (any_of HT_.out (by kernel_rfl)) ?_
                refine take_ (i := 0) (N := some 49) (v := ?_) (a' := ?_) #[true, true, true, true, true, false, true, true, true, true, false, false, false] rfl rfl (take_ofW HT_.out HW_.out (by kernel_rfl)) (fun _ _ _ h => h) (Or.inl ⟨by rfl, ?_⟩) hHeld ?_ ?_
                rotate_left
                · rintro w' ⟨s0, s1, s2, s3, s4, s5, s6, s7, s8, s9, s10⟩
                  go_simp
                  with_reducible rfl
                rotate_left
                · simp only [Act.put, List.setIfInBounds_toArray, List.set_cons_zero, List.set_cons_succ, i64_w, i32_w]
                  rfl
                refine take_ (i := 5) (N := some 54) (v := ?_) (a' := ?_) #[true, true, true, true, true, true, true, true, true, true, false, false, false] rfl rfl (take_ofW HT_.out HW_.out (by kernel_rfl)) (fun _ _ _ h => h) (Or.inl ⟨by rfl, ?_⟩) hHeld ?_ ?_
                rotate_left
                · rintro w' ⟨s0, s1, s2, s3, s4, s5, s6, s7, s8, s9, s10⟩
                  go_simp
                  with_reducible rfl
                rotate_left
                · simp only [Act.put, List.setIfInBounds_toArray, List.set_cons_zero, List.set_cons_succ, i64_w, i32_w]
                  rfl
                refine take_ (i := 10) (N := some 59) (v := ?_) (a' := ?_) #[true, true, true, true, true, true, true, true, true, true, true, false, false] rfl rfl (take_ofW HT_.out HW_.out (by kernel_rfl)) (fun _ _ _ h => h) (Or.inl ⟨by rfl, ?_⟩) hHeld ?_ ?_
                rotate_left
                · rintro w' ⟨s0, s1, s2, s3, s4, s5, s6, s7, s8, s9, s10⟩
                  go_simp
                  with_reducible rfl
                rotate_left
                · simp only [Act.put, List.setIfInBounds_toArray, List.set_cons_zero, List.set_cons_succ, i64_w, i32_w]
                  rfl
                refine one_ (i := 11) (N := some 60) #[true, true, true, true, true, true, true, true, true, true, true, true, false] rfl rfl (one_of HT_.out (by kernel_rfl)) (by decide) (fun K hK => ?_)
                refine gq_ Tryd.func11 (by kernel_rfl) rfl #[.agg #[.int .i64 x148000_1, .int .i64 x148001_1, .int .i64 x148002_1, .int .i64 x148003_1, .int .i64 x148004_1], .int .i64 ((rd_T33 l0 x7_1).f1), .int .i64 ((rd_T33 l0 x7_1).f2)] (by rfl) rfl rfl ?_
                with_reducible refine (salvorref22_In.calls x148000_1 x148001_1 x148002_1 x148003_1 x148004_1 ((rd_T33 l0 x7_1).f1) ((rd_T33 l0 x7_1).f2) t158 t159 t160 t161 t162 _ A15.out).mono ?_
                rintro e w21 ⟨rfl, hb⟩
                refine ⟨_, rfl, ?_⟩
                replace BK139 := bb_ BK139 hb
                replace BK147 := bb_ BK147 hb
                replace HB := Aside0.mk (below_step (by repeat (first | (with_reducible first | exact HB.out | apply below_alloc | apply pw_below_drewN | apply below_drew1 | refine below_set ?_ (IsS25.ge HI146.out) | refine below_set ?_ GE139.out | refine below_set ?_ GE147.out) | exact HB.out)) hb)
                replace HI146 := Aside0.mk (IsS25.below (by repeat (first | (with_reducible first | exact HI146.out | apply IsS25.alloc | apply IsS25.drewN | apply IsS25.drew | apply IsS25.set_0 | apply IsS25.set_1 | apply IsS25.set_2 | apply IsS25.set_3 | apply IsS25.set_4 | refine IsS25.far ?_ NB146_139.out _ | refine IsS25.far ?_ NB146_147.out _) | exact HI146.out)) hb)
                (try clear hb)
                (try clear hb2)
                (try clear hk)
                (try clear hi)
                refine hK.out _ _ ⟨(blk_cell BK147.out 0).trans rfl, (blk_cell BK147.out 1).trans rfl, (blk_cell BK147.out 2).trans rfl, (blk_cell BK147.out 3).trans rfl, (blk_cell BK147.out 4).trans rfl, ((HB.out.cell (World.block_lt_of_cell? w _ hw156_0)).trans hw156_0), ((HB.out.cell (World.block_lt_of_cell? w _ hw156_1)).trans hw156_1), ((HB.out.cell (World.block_lt_of_cell? w _ hw156_2)).trans hw156_2), ((HB.out.cell (World.block_lt_of_cell? w _ hw157_0)).trans hw157_0), ((HB.out.cell (World.block_lt_of_cell? w _ hw157_1)).trans hw157_1), ((HB.out.cell (World.block_lt_of_cell? w _ hw157_2)).trans hw157_2)⟩ (fun hHeld => ?_)
                clear hK K
                refine norm_ (a' := ?_) ?_ ?_
                rotate_left
                · show Act.put _ (some 60) _ = _
                  simp only [Act.put, List.setIfInBounds_toArray, List.set_cons_zero, List.set_cons_succ, i64_w, i32_w]
                  rfl
                refine last_ (i := 12) (N := none) #[true, true, true, true, true, true, true, true, true, true, true, true, true] rfl rfl (one_of HT_.out (by kernel_rfl)) (by decide) (fun K hK => ?_)
                have hs22 : w21.cell? ⟨gb147, 0, none⟩ = some (.int .i64 x148000_1) := (blk_cell BK147.out 0).trans rfl
                have hfs22 := blk_frozen BK147.out 0
                have hns22_0 := NB139_147.out
                have hms22_0 := NB147_139.out
                have hs23 : w21.cell? ⟨gb147, 1, none⟩ = some (.int .i64 x148001_1) := (blk_cell BK147.out 1).trans rfl
                have hfs23 := blk_frozen BK147.out 1
                have hns23_0 := NB139_147.out
                have hms23_0 := NB147_139.out
                have hs24 : w21.cell? ⟨gb147, 2, none⟩ = some (.int .i64 x148002_1) := (blk_cell BK147.out 2).trans rfl
                have hfs24 := blk_frozen BK147.out 2
                have hns24_0 := NB139_147.out
                have hms24_0 := NB147_139.out
                have hs25 : w21.cell? ⟨gb147, 3, none⟩ = some (.int .i64 x148003_1) := (blk_cell BK147.out 3).trans rfl
                have hfs25 := blk_frozen BK147.out 3
                have hns25_0 := NB139_147.out
                have hms25_0 := NB147_139.out
                have hs26 : w21.cell? ⟨gb147, 4, none⟩ = some (.int .i64 x148004_1) := (blk_cell BK147.out 4).trans rfl
                have hfs26 := blk_frozen BK147.out 4
                have hns26_0 := NB139_147.out
                have hms26_0 := NB147_139.out
                refine skip_ (w1 := ?_) (by rfl) rfl ?_ ?_
                rotate_left
                · go_simp
                  rfl
                refine hK.out _ _ ?_
                clear hK K
                refine done_ (done_of HT_.out (by kernel_rfl)) ?_
                try go_wp2
                have n0_ : Aside0 ((((((w21.setCell ⟨gb147, 0, none⟩ (.int .i64 t158)).setCell ⟨gb147, 1, none⟩ (.int .i64 t159)).setCell ⟨gb147, 2, none⟩ (.int .i64 t160)).setCell ⟨gb147, 3, none⟩ (.int .i64 t161)).setCell ⟨gb147, 4, none⟩ (.int .i64 t162)).heap[gb139]? = some (.cells #[.int .i64 a1_0, .int .i64 a1_1, .int .i64 a1_2, .int .i64 a1_3, .int .i64 a1_4] 23 (0, 0))) := ⟨by (with_reducible repeat (first | refine blk_drewN ?_ _ | refine blk_drew ?_ | refine blk_alloc ?_ _)); refine blk_far ?_ NB139_147.out _; (with_reducible repeat (first | refine blk_drewN ?_ _ | refine blk_drew ?_ | refine blk_alloc ?_ _)); refine blk_far ?_ NB139_147.out _; (with_reducible repeat (first | refine blk_drewN ?_ _ | refine blk_drew ?_ | refine blk_alloc ?_ _)); refine blk_far ?_ NB139_147.out _; (with_reducible repeat (first | refine blk_drewN ?_ _ | refine blk_drew ?_ | refine blk_alloc ?_ _)); refine blk_far ?_ NB139_147.out _; (with_reducible repeat (first | refine blk_drewN ?_ _ | refine blk_drew ?_ | refine blk_alloc ?_ _)); refine blk_far ?_ NB139_147.out _; (with_reducible repeat (first | refine blk_drewN ?_ _ | refine blk_drew ?_ | refine blk_alloc ?_ _)); exact BK139.out⟩
                have n1_ : Aside0 ((((((w21.setCell ⟨gb147, 0, none⟩ (.int .i64 t158)).setCell ⟨gb147, 1, none⟩ (.int .i64 t159)).setCell ⟨gb147, 2, none⟩ (.int .i64 t160)).setCell ⟨gb147, 3, none⟩ (.int .i64 t161)).setCell ⟨gb147, 4, none⟩ (.int .i64 t162)).heap[gb147]? = some (.cells #[.int .i64 t158, .int .i64 t159, .int .i64 t160, .int .i64 t161, .int .i64 t162] 23 (0, 0))) := ⟨by (with_reducible repeat (first | refine blk_drewN ?_ _ | refine blk_drew ?_ | refine blk_alloc ?_ _)); refine blk_put (cs := #[.int .i64 t158, .int .i64 t159, .int .i64 t160, .int .i64 t161, .int .i64 x148004_1]) ?_ 4 _ rfl; (with_reducible repeat (first | refine blk_drewN ?_ _ | refine blk_drew ?_ | refine blk_alloc ?_ _)); refine blk_put (cs := #[.int .i64 t158, .int .i64 t159, .int .i64 t160, .int .i64 x148003_1, .int .i64 x148004_1]) ?_ 3 _ rfl; (with_reducible repeat (first | refine blk_drewN ?_ _ | refine blk_drew ?_ | refine blk_alloc ?_ _)); refine blk_put (cs := #[.int .i64 t158, .int .i64 t159, .int .i64 x148002_1, .int .i64 x148003_1, .int .i64 x148004_1]) ?_ 2 _ rfl; (with_reducible repeat (first | refine blk_drewN ?_ _ | refine blk_drew ?_ | refine blk_alloc ?_ _)); refine blk_put (cs := #[.int .i64 t158, .int .i64 x148001_1, .int .i64 x148002_1, .int .i64 x148003_1, .int .i64 x148004_1]) ?_ 1 _ rfl; (with_reducible repeat (first | refine blk_drewN ?_ _ | refine blk_drew ?_ | refine blk_alloc ?_ _)); refine blk_put (cs := #[.int .i64 x148000_1, .int .i64 x148001_1, .int .i64 x148002_1, .int .i64 x148003_1, .int .i64 x148004_1]) ?_ 0 _ rfl; (with_reducible repeat (first | refine blk_drewN ?_ _ | refine blk_drew ?_ | refine blk_alloc ?_ _)); exact BK147.out⟩
                have n2_ : Aside0 (IsS25 w (((((w21.setCell ⟨gb147, 0, none⟩ (.int .i64 t158)).setCell ⟨gb147, 1, none⟩ (.int .i64 t159)).setCell ⟨gb147, 2, none⟩ (.int .i64 t160)).setCell ⟨gb147, 3, none⟩ (.int .i64 t161)).setCell ⟨gb147, 4, none⟩ (.int .i64 t162)) g146 t151 t152 t153 t154 t155) := ⟨by repeat (first | (with_reducible first | exact HI146.out | apply IsS25.alloc | apply IsS25.drewN | apply IsS25.drew | apply IsS25.set_0 | apply IsS25.set_1 | apply IsS25.set_2 | apply IsS25.set_3 | apply IsS25.set_4 | refine IsS25.far ?_ NB146_139.out _ | refine IsS25.far ?_ NB146_147.out _) | exact HI146.out)⟩
                have n3_ : Aside0 (Below w.heap.size w (((((w21.setCell ⟨gb147, 0, none⟩ (.int .i64 t158)).setCell ⟨gb147, 1, none⟩ (.int .i64 t159)).setCell ⟨gb147, 2, none⟩ (.int .i64 t160)).setCell ⟨gb147, 3, none⟩ (.int .i64 t161)).setCell ⟨gb147, 4, none⟩ (.int .i64 t162))) := ⟨by repeat (first | (with_reducible first | exact HB.out | apply below_alloc | apply pw_below_drewN | apply below_drew1 | refine below_set ?_ (IsS25.ge HI146.out) | refine below_set ?_ GE139.out | refine below_set ?_ GE147.out) | exact HB.out)⟩
                (try clear BK139)
                (try clear BK147)
                (try clear HI146)
                (try clear HB)
                generalize (((((w21.setCell ⟨gb147, 0, none⟩ (.int .i64 t158)).setCell ⟨gb147, 1, none⟩ (.int .i64 t159)).setCell ⟨gb147, 2, none⟩ (.int .i64 t160)).setCell ⟨gb147, 3, none⟩ (.int .i64 t161)).setCell ⟨gb147, 4, none⟩ (.int .i64 t162)) = w27 at n0_ n1_ n2_ n3_ ⊢
                have BK139 := n0_
                have BK147 := n1_
                have HI146 := n2_
                have HB := n3_
                clear n0_ n1_ n2_ n3_
                replace BK139 := Aside0.mk (blk_drew BK139.out)
                replace BK147 := Aside0.mk (blk_drew BK147.out)
                replace HI146 := Aside0.mk (IsS25.drew HI146.out)
                replace HB := Aside0.mk (below_drew1 HB.out)
                refine start_ (n := 3) (S := fun w' => w'.cell? ⟨gb147, 0, none⟩ = some (.int .i64 t158) ∧ w'.cell? ⟨gb147, 1, none⟩ = some (.int .i64 t159) ∧ w'.cell? ⟨gb147, 2, none⟩ = some (.int .i64 t160) ∧ w'.cell? ⟨gb147, 3, none⟩ = some (.int .i64 t161) ∧ w'.cell? ⟨gb147, 4, none⟩ = some (.int .i64 t162)) (ds := []) #[false, false, false] (by kernel_rfl) rfl rfl ⟨(blk_cell BK147.out 0).trans rfl, (blk_cell BK147.out 1).trans rfl, (blk_cell BK147.out 2).trans rfl, (blk_cell BK147.out 3).trans rfl, (blk_cell BK147.out 4).trans rfl⟩ (fun hHeld => ?_)
                generalize w27.drew = w28 at BK139 BK147 HI146 HB hHeld ⊢
                refine take_ (i := 1) (N := some 87) (v := ?_) (a' := ?_) #[false, true, false] rfl rfl (by kernel_rfl) (fun _ _ _ h => h) (Or.inl ⟨by rfl, ?_⟩) hHeld ?_ ?_
                rotate_left
                · rintro w' ⟨s0, s1, s2, s3, s4⟩
                  go_simp
                  with_reducible rfl
                rotate_left
                · simp only [Act.put, List.setIfInBounds_toArray, List.set_cons_zero, List.set_cons_succ, i64_w, i32_w]
                  rfl
                refine one_ (i := 0) (N := some 86) #[true, true, false] rfl rfl (by kernel_rfl) (by decide) (fun K hK => ?_)
                refine gq_ Tryd.func9 (by kernel_rfl) rfl #[.pointer (some ⟨g146, 0, none⟩)] (by rfl) rfl rfl ?_
                with_reducible refine (tally_Counter_Tally.calls g146 t151 t152 t153 t154 t155 t163 t164 t165 t166 t167 t168 t169 t170 t171 t172 w _ ?side1 ?side2 A16.out).mono ?_
                (case side1 => repeat (first | (with_reducible first | exact HI146.out | apply IsS25.alloc | apply IsS25.drewN | apply IsS25.drew | apply IsS25.set_0 | apply IsS25.set_1 | apply IsS25.set_2 | apply IsS25.set_3 | apply IsS25.set_4 | refine IsS25.far ?_ NB146_139.out _ | refine IsS25.far ?_ NB146_147.out _) | exact HI146.out))
                (case side2 => repeat (first | (with_reducible first | exact HB.out | apply below_alloc | apply pw_below_drewN | apply below_drew1 | refine below_set ?_ (IsS25.ge HI146.out) | refine below_set ?_ GE139.out | refine below_set ?_ GE147.out) | exact HB.out))
                rintro e w29 ⟨rfl, hi, hb, hk⟩
                refine ⟨_, rfl, ?_⟩
                replace BK139 := Aside0.mk (KeepBut.blk hk (g' := gb139) (o := .cells #[.int .i64 a1_0, .int .i64 a1_1, .int .i64 a1_2, .int .i64 a1_3, .int .i64 a1_4] 23 (0, 0)) (bq_ BK139) NB139_146.out (by simp))
                replace BK147 := Aside0.mk (KeepBut.blk hk (g' := gb147) (o := .cells #[.int .i64 t158, .int .i64 t159, .int .i64 t160, .int .i64 t161, .int .i64 t162] 23 (0, 0)) (bq_ BK147) NB147_146.out (by simp))
                replace HB := Aside0.mk (hb)
                replace HI146 := Aside0.mk (hi)
                (try clear hb)
                (try clear hb2)
                (try clear hk)
                (try clear hi)
                refine hK.out _ _ ⟨(blk_cell BK147.out 0).trans rfl, (blk_cell BK147.out 1).trans rfl, (blk_cell BK147.out 2).trans rfl, (blk_cell BK147.out 3).trans rfl, (blk_cell BK147.out 4).trans rfl⟩ (fun hHeld => ?_)
                clear hK K
                refine norm_ (a' := ?_) ?_ ?_
                rotate_left
                · show Act.put _ (some 86) _ = _
                  simp only [Act.put, List.setIfInBounds_toArray, List.set_cons_zero, List.set_cons_succ, i64_w, i32_w]
                  rfl
                refine pure_ (i := 2) (N := some 88) (v := ?_) (a' := ?_) #[true, true, true] rfl rfl (by kernel_rfl) (fun _ _ _ h => h) (Or.inl ⟨by rfl, ?_⟩) ?_ ?_
                rotate_left
                · intro w'
                  go_simp
                  with_reducible rfl
                rotate_left
                · simp only [Act.put, List.setIfInBounds_toArray, List.set_cons_zero, List.set_cons_succ, i64_w, i32_w]
                  rfl
                refine done_ (by kernel_rfl) ?_
                try go_wp2
                go_roundg k1
                case measure => have := HK1.out; omega
                case rel => exact ⟨(wrap64 (x7_1 + 1)), (t168), (t169), (t170), (t171), (t172), (t158), (t159), (t160), (t161), (t162), (by first | rfl | (simp; done) | (simp [*]; done)), H', ⟨by have := HK1.out; omega⟩, ⟨by (with_reducible repeat (first | refine blk_drewN ?_ _ | refine blk_drew ?_ | refine blk_alloc ?_ _)); exact BK139.out⟩, ⟨by (with_reducible repeat (first | refine blk_drewN ?_ _ | refine blk_drew ?_ | refine blk_alloc ?_ _)); exact BK147.out⟩, ⟨by repeat (first | (with_reducible first | exact HI146.out | apply IsS25.alloc | apply IsS25.drewN | apply IsS25.drew | apply IsS25.set_0 | apply IsS25.set_1 | apply IsS25.set_2 | apply IsS25.set_3 | apply IsS25.set_4 | refine IsS25.far ?_ NB146_139.out _ | refine IsS25.far ?_ NB146_147.out _) | exact HI146.out)⟩, ⟨by repeat (first | (with_reducible first | exact HB.out | apply below_alloc | apply pw_below_drewN | apply below_drew1 | refine below_set ?_ (IsS25.ge HI146.out) | refine below_set ?_ GE139.out | refine below_set ?_ GE147.out) | exact HB.out)⟩⟩
            · rw [if_neg c13] at H
              have c13b0 : ((Int.tmod ((rd_T33 l0 x7_1).f0) 3) == 0) = false := beq_eq_false_iff_ne.mpr c13
              have c13b1 : ((Int.tmod ((rd_T33 l0 x7_1).f0) 3) != 0) = true := bne_iff_ne.mpr c13
              by_cases c30 : (Int.tmod ((rd_T33 l0 x7_1).f0) 3) = 1
              · rw [if_pos c30] at H
                have c30b0 : ((Int.tmod ((rd_T33 l0 x7_1).f0) 3) == 1) = true := beq_iff_eq.mpr c30
                have c30b1 : ((Int.tmod ((rd_T33 l0 x7_1).f0) 3) != 1) = false := bne_eq_false_iff_eq.mpr c30
                clear c30
                replace H := Option.bind_eq_some_iff.mp H
                obtain ⟨⟨t175, t176, t177, t178, t179⟩, A310, H⟩ := H
                replace H : ((salvorref22_Out.f x148000_1 x148001_1 x148002_1 x148003_1 x148004_1 ((rd_T33 l0 x7_1).f1) ((rd_T33 l0 x7_1).f2)).bind fun bt182 => ((tally_Counter_Tally.f t175 t176 t177 t178 t179).bind fun bt187 => (if (!(bt187.1 == bt182.1) || (!(bt187.2.1 == bt182.2.1) || (!(bt187.2.2.1 == bt182.2.2.1) || (!(bt187.2.2.2.1 == bt182.2.2.2.1) || (!(bt187.2.2.2.2.1 == bt182.2.2.2.2)))))) = true then (some false) else (salvorlaw23_TallyPlays.l0 k1 l0 (wrap64 (x7_1 + 1)) a1_0 a1_1 a1_2 a1_3 a1_4 bt187.2.2.2.2.2.1 bt187.2.2.2.2.2.2.1 bt187.2.2.2.2.2.2.2.1 bt187.2.2.2.2.2.2.2.2.1 bt187.2.2.2.2.2.2.2.2.2 bt182.1 bt182.2.1 bt182.2.2.1 bt182.2.2.2.1 bt182.2.2.2.2)))) = some r := H
                have A31 := Aside0.mk A310
                clear A310
                replace H := Option.bind_eq_some_iff.mp H
                obtain ⟨⟨t182, t183, t184, t185, t186⟩, A320, H⟩ := H
                replace H : ((tally_Counter_Tally.f t175 t176 t177 t178 t179).bind fun bt187 => (if (!(bt187.1 == t182) || (!(bt187.2.1 == t183) || (!(bt187.2.2.1 == t184) || (!(bt187.2.2.2.1 == t185) || (!(bt187.2.2.2.2.1 == t186)))))) = true then (some false) else (salvorlaw23_TallyPlays.l0 k1 l0 (wrap64 (x7_1 + 1)) a1_0 a1_1 a1_2 a1_3 a1_4 bt187.2.2.2.2.2.1 bt187.2.2.2.2.2.2.1 bt187.2.2.2.2.2.2.2.1 bt187.2.2.2.2.2.2.2.2.1 bt187.2.2.2.2.2.2.2.2.2 t182 t183 t184 t185 t186))) = some r := H
                have A32 := Aside0.mk A320
                clear A320
                replace H := Option.bind_eq_some_iff.mp H
                obtain ⟨⟨t187, t188, t189, t190, t191, t192, t193, t194, t195, t196⟩, A330, H⟩ := H
                replace H : (if (!(t187 == t182) || (!(t188 == t183) || (!(t189 == t184) || (!(t190 == t185) || (!(t191 == t186)))))) = true then (some false) else (salvorlaw23_TallyPlays.l0 k1 l0 (wrap64 (x7_1 + 1)) a1_0 a1_1 a1_2 a1_3 a1_4 t192 t193 t194 t195 t196 t182 t183 t184 t185 t186)) = some r := H
                have A33 := Aside0.mk A330
                clear A330
                by_cases c34 : (!(t187 == t182) || (!(t188 == t183) || (!(t189 == t184) || (!(t190 == t185) || (!(t191 == t186)))))) = true
                · rw [if_pos c34] at H
                  have c34b0 : (!(t187 == t182) || (!(t188 == t183) || (!(t189 == t184) || (!(t190 == t185) || (!(t191 == t186)))))) = true := c34
                  clear c34
                  exact absurd ((Option.some.inj H).trans HT.out) (by simp)
                · rw [if_neg c34] at H
                  have c34b0 : (!(t187 == t182) || (!(t188 == t183) || (!(t189 == t184) || (!(t190 == t185) || (!(t191 == t186)))))) = false := by simpa using c34
                  clear c34
                  have H' := Aside0.mk H
                  clear H
                  have p148 : 0 ≤ (x7_1 : Int) := of_decide_eq_true (by first | (with_reducible assumption) | assumption)
                  have q148 : x7_1 < (l0.length : Int) := of_decide_eq_true (by first | (with_reducible assumption) | assumption)
                  obtain ⟨ad148, e148, hx148_0, hx148_1, hx148_2⟩ := at_T33 HR0.out x7_1 p148 q148
                  cases e148
                  replace hx148_0 := (HB.out.cell (World.block_lt_of_cell? w _ hx148_0)).trans hx148_0
                  replace hx148_1 := (HB.out.cell (World.block_lt_of_cell? w _ hx148_1)).trans hx148_1
                  replace hx148_2 := (HB.out.cell (World.block_lt_of_cell? w _ hx148_2)).trans hx148_2
                  replace p148 := eq_true p148
                  replace q148 := eq_true q148
                  try go_wp2
                  replace BK139 := Aside0.mk (blk_drew BK139.out)
                  replace BK147 := Aside0.mk (blk_drew BK147.out)
                  replace HI146 := Aside0.mk (IsS25.drew HI146.out)
                  replace HB := Aside0.mk (below_drew1 HB.out)
                  have p173 : 0 ≤ (x7_1 : Int) := of_decide_eq_true (by first | (with_reducible assumption) | assumption)
                  have q173 : x7_1 < (l0.length : Int) := of_decide_eq_true (by first | (with_reducible assumption) | assumption)
                  obtain ⟨ad173, e173, hx173_0, hx173_1, hx173_2⟩ := at_T33 HR0.out x7_1 p173 q173
                  have hw173_2 := hx173_2
                  have hw173_1 := hx173_1
                  have hw173_0 := hx173_0
                  obtain rfl : ad148 = ad173 := (by injection e173)
                  replace hx173_0 := (HB.out.cell (World.block_lt_of_cell? w _ hx173_0)).trans hx173_0
                  replace hx173_1 := (HB.out.cell (World.block_lt_of_cell? w _ hx173_1)).trans hx173_1
                  replace hx173_2 := (HB.out.cell (World.block_lt_of_cell? w _ hx173_2)).trans hx173_2
                  replace p173 := eq_true p173
                  replace q173 := eq_true q173
                  have p174 : 0 ≤ (x7_1 : Int) := of_decide_eq_true (by first | (with_reducible assumption) | assumption)
                  have q174 : x7_1 < (l0.length : Int) := of_decide_eq_true (by first | (with_reducible assumption) | assumption)
                  obtain ⟨ad174, e174, hx174_0, hx174_1, hx174_2⟩ := at_T33 HR0.out x7_1 p174 q174
                  have hw174_2 := hx174_2
                  have hw174_1 := hx174_1
                  have hw174_0 := hx174_0
                  obtain rfl : ad148 = ad174 := (by injection e174)
                  replace hx174_0 := (HB.out.cell (World.block_lt_of_cell? w _ hx174_0)).trans hx174_0
                  replace hx174_1 := (HB.out.cell (World.block_lt_of_cell? w _ hx174_1)).trans hx174_1
                  replace hx174_2 := (HB.out.cell (World.block_lt_of_cell? w _ hx174_2)).trans hx174_2
                  replace p174 := eq_true p174
                  replace q174 := eq_true q174
                  refine start_ (n := 11) (S := fun w' => w'.cell? (ad148.add ((x7_1).toNat * 3)) = some (.int .u8 ((rd_T33 l0 x7_1).f0)) ∧ w'.cell? ⟨(ad148.add ((x7_1).toNat * 3)).block, (ad148.add ((x7_1).toNat * 3)).off + 1, none⟩ = some (.int .i64 ((rd_T33 l0 x7_1).f1)) ∧ w'.cell? ⟨(ad148.add ((x7_1).toNat * 3)).block, (ad148.add ((x7_1).toNat * 3)).off + 2, none⟩ = some (.int .i64 ((rd_T33 l0 x7_1).f2)) ∧ w'.cell? (ad148.add ((x7_1).toNat * 3)) = some (.int .u8 ((rd_T33 l0 x7_1).f0)) ∧ w'.cell? ⟨(ad148.add ((x7_1).toNat * 3)).block, (ad148.add ((x7_1).toNat * 3)).off + 1, none⟩ = some (.int .i64 ((rd_T33 l0 x7_1).f1)) ∧ w'.cell? ⟨(ad148.add ((x7_1).toNat * 3)).block, (ad148.add ((x7_1).toNat * 3)).off + 2, none⟩ = some (.int .i64 ((rd_T33 l0 x7_1).f2))) (ds := []) #[false, false, false, false, false, false, false, false, false, false, false] (by kernel_rfl) rfl rfl ⟨((HB.out.cell (World.block_lt_of_cell? w _ hw173_0)).trans hw173_0), ((HB.out.cell (World.block_lt_of_cell? w _ hw173_1)).trans hw173_1), ((HB.out.cell (World.block_lt_of_cell? w _ hw173_2)).trans hw173_2), ((HB.out.cell (World.block_lt_of_cell? w _ hw174_0)).trans hw174_0), ((HB.out.cell (World.block_lt_of_cell? w _ hw174_1)).trans hw174_1), ((HB.out.cell (World.block_lt_of_cell? w _ hw174_2)).trans hw174_2)⟩ (fun hHeld => ?_); refine with_tabW salvorlaw23_TallyPlays.tab15 salvorlaw23_TallyPlays.bits15 (fun HT_ HW_ => ?_)
                  generalize wr.drew = w35 at BK139 BK147 HI146 HB hx173_0 hx173_1 hx173_2 hx174_0 hx174_1 hx174_2 hHeld ⊢
                  refine pu_ 0 63 (lb_ 11 1) rfl rfl (any_of HT_.out (by kernel_rfl)) ?_
                  refine pu_ 1 64 (lb_ 11 3) rfl rfl (any_of HT_.out (by kernel_rfl)) ?_
                  refine pu_ 2 65 (lb_ 11 7) rfl rfl (any_of HT_.out (by kernel_rfl)) ?_
                  refine pu_ 3 66 (lb_ 11 15) rfl rfl (any_of HT_.out (by kernel_rfl)) ?_
                  refine pu_ 5 68 (lb_ 11 47) rfl rfl (any_of HT_.out (by kernel_rfl)) ?_
                  refine pu_ 6 69 (lb_ 11 111) rfl rfl (any_of HT_.out (by kernel_rfl)) ?_
                  refine pu_ 7 70 (lb_ 11 239) rfl rfl (any_of HT_.out (by kernel_rfl)) ?_
                  refine pu_ 8 71 (lb_ 11 495) rfl rfl (any_of HT_.out (by kernel_rfl)) ?_
                  refine take_ (i := 4) (N := some 67) (v := ?_) (a' := ?_) #[true, true, true, true, true, true, true, true, true, false, false] rfl rfl (take_ofW HT_.out HW_.out (by kernel_rfl)) (fun _ _ _ h => h) (Or.inl ⟨by rfl, ?_⟩) hHeld ?_ ?_
                  rotate_left
                  · rintro w' ⟨s0, s1, s2, s3, s4, s5⟩
                    go_simp
                    with_reducible rfl
                  rotate_left
                  · simp only [Act.put, List.setIfInBounds_toArray, List.set_cons_zero, List.set_cons_succ, i64_w, i32_w]
                    rfl
                  refine take_ (i := 9) (N := some 72) (v := ?_) (a' := ?_) #[true, true, true, true, true, true, true, true, true, true, false] rfl rfl (take_ofW HT_.out HW_.out (by kernel_rfl)) (fun _ _ _ h => h) (Or.inl ⟨by rfl, ?_⟩) hHeld ?_ ?_
                  rotate_left
                  · rintro w' ⟨s0, s1, s2, s3, s4, s5⟩
                    go_simp
                    with_reducible rfl
                  rotate_left
                  · simp only [Act.put, List.setIfInBounds_toArray, List.set_cons_zero, List.set_cons_succ, i64_w, i32_w]
                    rfl
                  refine one_ (i := 10) (N := some 73) #[true, true, true, true, true, true, true, true, true, true, true] rfl rfl (one_of HT_.out (by kernel_rfl)) (by decide) (fun K hK => ?_)
                  refine gq_ Tryd.func7 (by kernel_rfl) rfl #[.pointer (some ⟨g146, 0, none⟩), .int .i64 ((rd_T33 l0 x7_1).f1), .int .i64 ((rd_T33 l0 x7_1).f2)] (by rfl) rfl rfl ?_
                  with_reducible refine (tally_Counter_Out.calls g146 x147000_1 x147001_1 x147002_1 x147003_1 x147004_1 ((rd_T33 l0 x7_1).f1) ((rd_T33 l0 x7_1).f2) t175 t176 t177 t178 t179 w _ ?side1 ?side2 A31.out).mono ?_
                  (case side1 => repeat (first | (with_reducible first | exact HI146.out | apply IsS25.alloc | apply IsS25.drewN | apply IsS25.drew | apply IsS25.set_0 | apply IsS25.set_1 | apply IsS25.set_2 | apply IsS25.set_3 | apply IsS25.set_4 | refine IsS25.far ?_ NB146_139.out _ | refine IsS25.far ?_ NB146_147.out _) | exact HI146.out))
                  (case side2 => repeat (first | (with_reducible first | exact HB.out | apply below_alloc | apply pw_below_drewN | apply below_drew1 | refine below_set ?_ (IsS25.ge HI146.out) | refine below_set ?_ GE139.out | refine below_set ?_ GE147.out) | exact HB.out))
                  rintro e w36 ⟨rfl, hi, hb, hk⟩
                  refine ⟨_, rfl, ?_⟩
                  replace BK139 := Aside0.mk (KeepBut.blk hk (g' := gb139) (o := .cells #[.int .i64 a1_0, .int .i64 a1_1, .int .i64 a1_2, .int .i64 a1_3, .int .i64 a1_4] 23 (0, 0)) (bq_ BK139) NB139_146.out (by simp))
                  replace BK147 := Aside0.mk (KeepBut.blk hk (g' := gb147) (o := .cells #[.int .i64 x148000_1, .int .i64 x148001_1, .int .i64 x148002_1, .int .i64 x148003_1, .int .i64 x148004_1] 23 (0, 0)) (bq_ BK147) NB147_146.out (by simp))
                  replace HB := Aside0.mk (hb)
                  replace HI146 := Aside0.mk (hi)
                  (try clear hb)
                  (try clear hb2)
                  (try clear hk)
                  (try clear hi)
                  refine hK.out _ _ ⟨((HB.out.cell (World.block_lt_of_cell? w _ hw173_0)).trans hw173_0), ((HB.out.cell (World.block_lt_of_cell? w _ hw173_1)).trans hw173_1), ((HB.out.cell (World.block_lt_of_cell? w _ hw173_2)).trans hw173_2), ((HB.out.cell (World.block_lt_of_cell? w _ hw174_0)).trans hw174_0), ((HB.out.cell (World.block_lt_of_cell? w _ hw174_1)).trans hw174_1), ((HB.out.cell (World.block_lt_of_cell? w _ hw174_2)).trans hw174_2)⟩ (fun hHeld => ?_)
                  clear hK K
                  refine norm_ (a' := ?_) ?_ ?_
                  rotate_left
                  · show Act.put _ (some 73) _ = _
                    simp only [Act.put, List.setIfInBounds_toArray, List.set_cons_zero, List.set_cons_succ, i64_w, i32_w]
                    rfl
                  refine done_ (done_of HT_.out (by kernel_rfl)) ?_
                  try go_wp2
                  replace BK139 := Aside0.mk (blk_drew BK139.out)
                  replace BK147 := Aside0.mk (blk_drew BK147.out)
                  replace HI146 := Aside0.mk (IsS25.drew HI146.out)
                  replace HB := Aside0.mk (below_drew1 HB.out)
                  have p180 : 0 ≤ (x7_1 : Int) := of_decide_eq_true (by first | (with_reducible assumption) | assumption)
                  have q180 : x7_1 < (l0.length : Int) := of_decide_eq_true (by first | (with_reducible assumption) | assumption)
                  obtain ⟨ad180, e180, hx180_0, hx180_1, hx180_2⟩ := at_T33 HR0.out x7_1 p180 q180
                  have hw180_2 := hx180_2
                  have hw180_1 := hx180_1
                  have hw180_0 := hx180_0
                  obtain rfl : ad148 = ad180 := (by injection e180)
                  replace hx180_0 := (HB.out.cell (World.block_lt_of_cell? w _ hx180_0)).trans hx180_0
                  replace hx180_1 := (HB.out.cell (World.block_lt_of_cell? w _ hx180_1)).trans hx180_1
                  replace hx180_2 := (HB.out.cell (World.block_lt_of_cell? w _ hx180_2)).trans hx180_2
                  replace p180 := eq_true p180
                  replace q180 := eq_true q180
                  have p181 : 0 ≤ (x7_1 : Int) := of_decide_eq_true (by first | (with_reducible assumption) | assumption)
                  have q181 : x7_1 < (l0.length : Int) := of_decide_eq_true (by first | (with_reducible assumption) | assumption)
                  obtain ⟨ad181, e181, hx181_0, hx181_1, hx181_2⟩ := at_T33 HR0.out x7_1 p181 q181
                  have hw181_2 := hx181_2
                  have hw181_1 := hx181_1
                  have hw181_0 := hx181_0
                  obtain rfl : ad148 = ad181 := (by injection e181)
                  replace hx181_0 := (HB.out.cell (World.block_lt_of_cell? w _ hx181_0)).trans hx181_0
                  replace hx181_1 := (HB.out.cell (World.block_lt_of_cell? w _ hx181_1)).trans hx181_1
                  replace hx181_2 := (HB.out.cell (World.block_lt_of_cell? w _ hx181_2)).trans hx181_2
                  replace p181 := eq_true p181
                  replace q181 := eq_true q181
                  refine start_ (n := 13) (S := fun w' => w'.cell? ⟨gb147, 0, none⟩ = some (.int .i64 x148000_1) ∧ w'.cell? ⟨gb147, 1, none⟩ = some (.int .i64 x148001_1) ∧ w'.cell? ⟨gb147, 2, none⟩ = some (.int .i64 x148002_1) ∧ w'.cell? ⟨gb147, 3, none⟩ = some (.int .i64 x148003_1) ∧ w'.cell? ⟨gb147, 4, none⟩ = some (.int .i64 x148004_1) ∧ w'.cell? (ad148.add ((x7_1).toNat * 3)) = some (.int .u8 ((rd_T33 l0 x7_1).f0)) ∧ w'.cell? ⟨(ad148.add ((x7_1).toNat * 3)).block, (ad148.add ((x7_1).toNat * 3)).off + 1, none⟩ = some (.int .i64 ((rd_T33 l0 x7_1).f1)) ∧ w'.cell? ⟨(ad148.add ((x7_1).toNat * 3)).block, (ad148.add ((x7_1).toNat * 3)).off + 2, none⟩ = some (.int .i64 ((rd_T33 l0 x7_1).f2)) ∧ w'.cell? (ad148.add ((x7_1).toNat * 3)) = some (.int .u8 ((rd_T33 l0 x7_1).f0)) ∧ w'.cell? ⟨(ad148.add ((x7_1).toNat * 3)).block, (ad148.add ((x7_1).toNat * 3)).off + 1, none⟩ = some (.int .i64 ((rd_T33 l0 x7_1).f1)) ∧ w'.cell? ⟨(ad148.add ((x7_1).toNat * 3)).block, (ad148.add ((x7_1).toNat * 3)).off + 2, none⟩ = some (.int .i64 ((rd_T33 l0 x7_1).f2))) (ds := [12]) #[false, false, false, false, false, false, false, false, false, false, false, false, false] (by kernel_rfl) rfl rfl ⟨(blk_cell BK147.out 0).trans rfl, (blk_cell BK147.out 1).trans rfl, (blk_cell BK147.out 2).trans rfl, (blk_cell BK147.out 3).trans rfl, (blk_cell BK147.out 4).trans rfl, ((HB.out.cell (World.block_lt_of_cell? w _ hw180_0)).trans hw180_0), ((HB.out.cell (World.block_lt_of_cell? w _ hw180_1)).trans hw180_1), ((HB.out.cell (World.block_lt_of_cell? w _ hw180_2)).trans hw180_2), ((HB.out.cell (World.block_lt_of_cell? w _ hw181_0)).trans hw181_0), ((HB.out.cell (World.block_lt_of_cell? w _ hw181_1)).trans hw181_1), ((HB.out.cell (World.block_lt_of_cell? w _ hw181_2)).trans hw181_2)⟩ (fun hHeld => ?_); refine with_tabW salvorlaw23_TallyPlays.tab16 salvorlaw23_TallyPlays.bits16 (fun HT_ HW_ => ?_)
                  generalize w36.drew = w37 at BK139 BK147 HI146 HB hx180_0 hx180_1 hx180_2 hx181_0 hx181_1 hx181_2 hHeld ⊢
                  refine pu_ 1 75 (lb_ 13 2) rfl rfl (any_of HT_.out (by kernel_rfl)) ?_
                  refine pu_ 2 76 (lb_ 13 6) rfl rfl (any_of HT_.out (by kernel_rfl)) ?_
                  refine pu_ 3 77 (lb_ 13 14) rfl rfl (any_of HT_.out (by kernel_rfl)) ?_
                  refine pu_ 4 78 (lb_ 13 30) rfl rfl (any_of HT_.out (by kernel_rfl)) ?_
                  refine pu_ 6 80 (lb_ 13 94) rfl rfl (any_of HT_.out (by kernel_rfl)) ?_
                  refine pu_ 7 81 (lb_ 13 222) rfl rfl (any_of HT_.out (by kernel_rfl)) ?_
                  refine pu_ 8 82 (lb_ 13 478) rfl rfl (any_of HT_.out (by kernel_rfl)) ?_
                  refine pu_ 9 83 (lb_ 13 990) rfl rfl (any_of HT_.out (by kernel_rfl)) ?_
                  refine take_ (i := 0) (N := some 74) (v := ?_) (a' := ?_) #[true, true, true, true, true, false, true, true, true, true, false, false, false] rfl rfl (take_ofW HT_.out HW_.out (by kernel_rfl)) (fun _ _ _ h => h) (Or.inl ⟨by rfl, ?_⟩) hHeld ?_ ?_
                  rotate_left
                  · rintro w' ⟨s0, s1, s2, s3, s4, s5, s6, s7, s8, s9, s10⟩
                    go_simp
                    with_reducible rfl
                  rotate_left
                  · simp only [Act.put, List.setIfInBounds_toArray, List.set_cons_zero, List.set_cons_succ, i64_w, i32_w]
                    rfl
                  refine take_ (i := 5) (N := some 79) (v := ?_) (a' := ?_) #[true, true, true, true, true, true, true, true, true, true, false, false, false] rfl rfl (take_ofW HT_.out HW_.out (by kernel_rfl)) (fun _ _ _ h => h) (Or.inl ⟨by rfl, ?_⟩) hHeld ?_ ?_
                  rotate_left
                  · rintro w' ⟨s0, s1, s2, s3, s4, s5, s6, s7, s8, s9, s10⟩
                    go_simp
                    with_reducible rfl
                  rotate_left
                  · simp only [Act.put, List.setIfInBounds_toArray, List.set_cons_zero, List.set_cons_succ, i64_w, i32_w]
                    rfl
                  refine take_ (i := 10) (N := some 84) (v := ?_) (a' := ?_) #[true, true, true, true, true, true, true, true, true, true, true, false, false] rfl rfl (take_ofW HT_.out HW_.out (by kernel_rfl)) (fun _ _ _ h => h) (Or.inl ⟨by rfl, ?_⟩) hHeld ?_ ?_
                  rotate_left
                  · rintro w' ⟨s0, s1, s2, s3, s4, s5, s6, s7, s8, s9, s10⟩
                    go_simp
                    with_reducible rfl
                  rotate_left
                  · simp only [Act.put, List.setIfInBounds_toArray, List.set_cons_zero, List.set_cons_succ, i64_w, i32_w]
                    rfl
                  refine one_ (i := 11) (N := some 85) #[true, true, true, true, true, true, true, true, true, true, true, true, false] rfl rfl (one_of HT_.out (by kernel_rfl)) (by decide) (fun K hK => ?_)
                  refine gq_ Tryd.func12 (by kernel_rfl) rfl #[.agg #[.int .i64 x148000_1, .int .i64 x148001_1, .int .i64 x148002_1, .int .i64 x148003_1, .int .i64 x148004_1], .int .i64 ((rd_T33 l0 x7_1).f1), .int .i64 ((rd_T33 l0 x7_1).f2)] (by rfl) rfl rfl ?_
                  with_reducible refine (salvorref22_Out.calls x148000_1 x148001_1 x148002_1 x148003_1 x148004_1 ((rd_T33 l0 x7_1).f1) ((rd_T33 l0 x7_1).f2) t182 t183 t184 t185 t186 _ A32.out).mono ?_
                  rintro e w38 ⟨rfl, hb⟩
                  refine ⟨_, rfl, ?_⟩
                  replace BK139 := bb_ BK139 hb
                  replace BK147 := bb_ BK147 hb
                  replace HB := Aside0.mk (below_step (by repeat (first | (with_reducible first | exact HB.out | apply below_alloc | apply pw_below_drewN | apply below_drew1 | refine below_set ?_ (IsS25.ge HI146.out) | refine below_set ?_ GE139.out | refine below_set ?_ GE147.out) | exact HB.out)) hb)
                  replace HI146 := Aside0.mk (IsS25.below (by repeat (first | (with_reducible first | exact HI146.out | apply IsS25.alloc | apply IsS25.drewN | apply IsS25.drew | apply IsS25.set_0 | apply IsS25.set_1 | apply IsS25.set_2 | apply IsS25.set_3 | apply IsS25.set_4 | refine IsS25.far ?_ NB146_139.out _ | refine IsS25.far ?_ NB146_147.out _) | exact HI146.out)) hb)
                  (try clear hb)
                  (try clear hb2)
                  (try clear hk)
                  (try clear hi)
                  refine hK.out _ _ ⟨(blk_cell BK147.out 0).trans rfl, (blk_cell BK147.out 1).trans rfl, (blk_cell BK147.out 2).trans rfl, (blk_cell BK147.out 3).trans rfl, (blk_cell BK147.out 4).trans rfl, ((HB.out.cell (World.block_lt_of_cell? w _ hw180_0)).trans hw180_0), ((HB.out.cell (World.block_lt_of_cell? w _ hw180_1)).trans hw180_1), ((HB.out.cell (World.block_lt_of_cell? w _ hw180_2)).trans hw180_2), ((HB.out.cell (World.block_lt_of_cell? w _ hw181_0)).trans hw181_0), ((HB.out.cell (World.block_lt_of_cell? w _ hw181_1)).trans hw181_1), ((HB.out.cell (World.block_lt_of_cell? w _ hw181_2)).trans hw181_2)⟩ (fun hHeld => ?_)
                  clear hK K
                  refine norm_ (a' := ?_) ?_ ?_
                  rotate_left
                  · show Act.put _ (some 85) _ = _
                    simp only [Act.put, List.setIfInBounds_toArray, List.set_cons_zero, List.set_cons_succ, i64_w, i32_w]
                    rfl
                  refine last_ (i := 12) (N := none) #[true, true, true, true, true, true, true, true, true, true, true, true, true] rfl rfl (one_of HT_.out (by kernel_rfl)) (by decide) (fun K hK => ?_)
                  have hs39 : w38.cell? ⟨gb147, 0, none⟩ = some (.int .i64 x148000_1) := (blk_cell BK147.out 0).trans rfl
                  have hfs39 := blk_frozen BK147.out 0
                  have hns39_0 := NB139_147.out
                  have hms39_0 := NB147_139.out
                  have hs40 : w38.cell? ⟨gb147, 1, none⟩ = some (.int .i64 x148001_1) := (blk_cell BK147.out 1).trans rfl
                  have hfs40 := blk_frozen BK147.out 1
                  have hns40_0 := NB139_147.out
                  have hms40_0 := NB147_139.out
                  have hs41 : w38.cell? ⟨gb147, 2, none⟩ = some (.int .i64 x148002_1) := (blk_cell BK147.out 2).trans rfl
                  have hfs41 := blk_frozen BK147.out 2
                  have hns41_0 := NB139_147.out
                  have hms41_0 := NB147_139.out
                  have hs42 : w38.cell? ⟨gb147, 3, none⟩ = some (.int .i64 x148003_1) := (blk_cell BK147.out 3).trans rfl
                  have hfs42 := blk_frozen BK147.out 3
                  have hns42_0 := NB139_147.out
                  have hms42_0 := NB147_139.out
                  have hs43 : w38.cell? ⟨gb147, 4, none⟩ = some (.int .i64 x148004_1) := (blk_cell BK147.out 4).trans rfl
                  have hfs43 := blk_frozen BK147.out 4
                  have hns43_0 := NB139_147.out
                  have hms43_0 := NB147_139.out
                  refine skip_ (w1 := ?_) (by rfl) rfl ?_ ?_
                  rotate_left
                  · go_simp
                    rfl
                  refine hK.out _ _ ?_
                  clear hK K
                  refine done_ (done_of HT_.out (by kernel_rfl)) ?_
                  try go_wp2
                  have n0_ : Aside0 ((((((w38.setCell ⟨gb147, 0, none⟩ (.int .i64 t182)).setCell ⟨gb147, 1, none⟩ (.int .i64 t183)).setCell ⟨gb147, 2, none⟩ (.int .i64 t184)).setCell ⟨gb147, 3, none⟩ (.int .i64 t185)).setCell ⟨gb147, 4, none⟩ (.int .i64 t186)).heap[gb139]? = some (.cells #[.int .i64 a1_0, .int .i64 a1_1, .int .i64 a1_2, .int .i64 a1_3, .int .i64 a1_4] 23 (0, 0))) := ⟨by (with_reducible repeat (first | refine blk_drewN ?_ _ | refine blk_drew ?_ | refine blk_alloc ?_ _)); refine blk_far ?_ NB139_147.out _; (with_reducible repeat (first | refine blk_drewN ?_ _ | refine blk_drew ?_ | refine blk_alloc ?_ _)); refine blk_far ?_ NB139_147.out _; (with_reducible repeat (first | refine blk_drewN ?_ _ | refine blk_drew ?_ | refine blk_alloc ?_ _)); refine blk_far ?_ NB139_147.out _; (with_reducible repeat (first | refine blk_drewN ?_ _ | refine blk_drew ?_ | refine blk_alloc ?_ _)); refine blk_far ?_ NB139_147.out _; (with_reducible repeat (first | refine blk_drewN ?_ _ | refine blk_drew ?_ | refine blk_alloc ?_ _)); refine blk_far ?_ NB139_147.out _; (with_reducible repeat (first | refine blk_drewN ?_ _ | refine blk_drew ?_ | refine blk_alloc ?_ _)); exact BK139.out⟩
                  have n1_ : Aside0 ((((((w38.setCell ⟨gb147, 0, none⟩ (.int .i64 t182)).setCell ⟨gb147, 1, none⟩ (.int .i64 t183)).setCell ⟨gb147, 2, none⟩ (.int .i64 t184)).setCell ⟨gb147, 3, none⟩ (.int .i64 t185)).setCell ⟨gb147, 4, none⟩ (.int .i64 t186)).heap[gb147]? = some (.cells #[.int .i64 t182, .int .i64 t183, .int .i64 t184, .int .i64 t185, .int .i64 t186] 23 (0, 0))) := ⟨by (with_reducible repeat (first | refine blk_drewN ?_ _ | refine blk_drew ?_ | refine blk_alloc ?_ _)); refine blk_put (cs := #[.int .i64 t182, .int .i64 t183, .int .i64 t184, .int .i64 t185, .int .i64 x148004_1]) ?_ 4 _ rfl; (with_reducible repeat (first | refine blk_drewN ?_ _ | refine blk_drew ?_ | refine blk_alloc ?_ _)); refine blk_put (cs := #[.int .i64 t182, .int .i64 t183, .int .i64 t184, .int .i64 x148003_1, .int .i64 x148004_1]) ?_ 3 _ rfl; (with_reducible repeat (first | refine blk_drewN ?_ _ | refine blk_drew ?_ | refine blk_alloc ?_ _)); refine blk_put (cs := #[.int .i64 t182, .int .i64 t183, .int .i64 x148002_1, .int .i64 x148003_1, .int .i64 x148004_1]) ?_ 2 _ rfl; (with_reducible repeat (first | refine blk_drewN ?_ _ | refine blk_drew ?_ | refine blk_alloc ?_ _)); refine blk_put (cs := #[.int .i64 t182, .int .i64 x148001_1, .int .i64 x148002_1, .int .i64 x148003_1, .int .i64 x148004_1]) ?_ 1 _ rfl; (with_reducible repeat (first | refine blk_drewN ?_ _ | refine blk_drew ?_ | refine blk_alloc ?_ _)); refine blk_put (cs := #[.int .i64 x148000_1, .int .i64 x148001_1, .int .i64 x148002_1, .int .i64 x148003_1, .int .i64 x148004_1]) ?_ 0 _ rfl; (with_reducible repeat (first | refine blk_drewN ?_ _ | refine blk_drew ?_ | refine blk_alloc ?_ _)); exact BK147.out⟩
                  have n2_ : Aside0 (IsS25 w (((((w38.setCell ⟨gb147, 0, none⟩ (.int .i64 t182)).setCell ⟨gb147, 1, none⟩ (.int .i64 t183)).setCell ⟨gb147, 2, none⟩ (.int .i64 t184)).setCell ⟨gb147, 3, none⟩ (.int .i64 t185)).setCell ⟨gb147, 4, none⟩ (.int .i64 t186)) g146 t175 t176 t177 t178 t179) := ⟨by repeat (first | (with_reducible first | exact HI146.out | apply IsS25.alloc | apply IsS25.drewN | apply IsS25.drew | apply IsS25.set_0 | apply IsS25.set_1 | apply IsS25.set_2 | apply IsS25.set_3 | apply IsS25.set_4 | refine IsS25.far ?_ NB146_139.out _ | refine IsS25.far ?_ NB146_147.out _) | exact HI146.out)⟩
                  have n3_ : Aside0 (Below w.heap.size w (((((w38.setCell ⟨gb147, 0, none⟩ (.int .i64 t182)).setCell ⟨gb147, 1, none⟩ (.int .i64 t183)).setCell ⟨gb147, 2, none⟩ (.int .i64 t184)).setCell ⟨gb147, 3, none⟩ (.int .i64 t185)).setCell ⟨gb147, 4, none⟩ (.int .i64 t186))) := ⟨by repeat (first | (with_reducible first | exact HB.out | apply below_alloc | apply pw_below_drewN | apply below_drew1 | refine below_set ?_ (IsS25.ge HI146.out) | refine below_set ?_ GE139.out | refine below_set ?_ GE147.out) | exact HB.out)⟩
                  (try clear BK139)
                  (try clear BK147)
                  (try clear HI146)
                  (try clear HB)
                  generalize (((((w38.setCell ⟨gb147, 0, none⟩ (.int .i64 t182)).setCell ⟨gb147, 1, none⟩ (.int .i64 t183)).setCell ⟨gb147, 2, none⟩ (.int .i64 t184)).setCell ⟨gb147, 3, none⟩ (.int .i64 t185)).setCell ⟨gb147, 4, none⟩ (.int .i64 t186)) = w44 at n0_ n1_ n2_ n3_ ⊢
                  have BK139 := n0_
                  have BK147 := n1_
                  have HI146 := n2_
                  have HB := n3_
                  clear n0_ n1_ n2_ n3_
                  replace BK139 := Aside0.mk (blk_drew BK139.out)
                  replace BK147 := Aside0.mk (blk_drew BK147.out)
                  replace HI146 := Aside0.mk (IsS25.drew HI146.out)
                  replace HB := Aside0.mk (below_drew1 HB.out)
                  refine start_ (n := 3) (S := fun w' => w'.cell? ⟨gb147, 0, none⟩ = some (.int .i64 t182) ∧ w'.cell? ⟨gb147, 1, none⟩ = some (.int .i64 t183) ∧ w'.cell? ⟨gb147, 2, none⟩ = some (.int .i64 t184) ∧ w'.cell? ⟨gb147, 3, none⟩ = some (.int .i64 t185) ∧ w'.cell? ⟨gb147, 4, none⟩ = some (.int .i64 t186)) (ds := []) #[false, false, false] (by kernel_rfl) rfl rfl ⟨(blk_cell BK147.out 0).trans rfl, (blk_cell BK147.out 1).trans rfl, (blk_cell BK147.out 2).trans rfl, (blk_cell BK147.out 3).trans rfl, (blk_cell BK147.out 4).trans rfl⟩ (fun hHeld => ?_)
                  generalize w44.drew = w45 at BK139 BK147 HI146 HB hHeld ⊢
                  refine take_ (i := 1) (N := some 87) (v := ?_) (a' := ?_) #[false, true, false] rfl rfl (by kernel_rfl) (fun _ _ _ h => h) (Or.inl ⟨by rfl, ?_⟩) hHeld ?_ ?_
                  rotate_left
                  · rintro w' ⟨s0, s1, s2, s3, s4⟩
                    go_simp
                    with_reducible rfl
                  rotate_left
                  · simp only [Act.put, List.setIfInBounds_toArray, List.set_cons_zero, List.set_cons_succ, i64_w, i32_w]
                    rfl
                  refine one_ (i := 0) (N := some 86) #[true, true, false] rfl rfl (by kernel_rfl) (by decide) (fun K hK => ?_)
                  refine gq_ Tryd.func9 (by kernel_rfl) rfl #[.pointer (some ⟨g146, 0, none⟩)] (by rfl) rfl rfl ?_
                  with_reducible refine (tally_Counter_Tally.calls g146 t175 t176 t177 t178 t179 t187 t188 t189 t190 t191 t192 t193 t194 t195 t196 w _ ?side1 ?side2 A33.out).mono ?_
                  (case side1 => repeat (first | (with_reducible first | exact HI146.out | apply IsS25.alloc | apply IsS25.drewN | apply IsS25.drew | apply IsS25.set_0 | apply IsS25.set_1 | apply IsS25.set_2 | apply IsS25.set_3 | apply IsS25.set_4 | refine IsS25.far ?_ NB146_139.out _ | refine IsS25.far ?_ NB146_147.out _) | exact HI146.out))
                  (case side2 => repeat (first | (with_reducible first | exact HB.out | apply below_alloc | apply pw_below_drewN | apply below_drew1 | refine below_set ?_ (IsS25.ge HI146.out) | refine below_set ?_ GE139.out | refine below_set ?_ GE147.out) | exact HB.out))
                  rintro e w46 ⟨rfl, hi, hb, hk⟩
                  refine ⟨_, rfl, ?_⟩
                  replace BK139 := Aside0.mk (KeepBut.blk hk (g' := gb139) (o := .cells #[.int .i64 a1_0, .int .i64 a1_1, .int .i64 a1_2, .int .i64 a1_3, .int .i64 a1_4] 23 (0, 0)) (bq_ BK139) NB139_146.out (by simp))
                  replace BK147 := Aside0.mk (KeepBut.blk hk (g' := gb147) (o := .cells #[.int .i64 t182, .int .i64 t183, .int .i64 t184, .int .i64 t185, .int .i64 t186] 23 (0, 0)) (bq_ BK147) NB147_146.out (by simp))
                  replace HB := Aside0.mk (hb)
                  replace HI146 := Aside0.mk (hi)
                  (try clear hb)
                  (try clear hb2)
                  (try clear hk)
                  (try clear hi)
                  refine hK.out _ _ ⟨(blk_cell BK147.out 0).trans rfl, (blk_cell BK147.out 1).trans rfl, (blk_cell BK147.out 2).trans rfl, (blk_cell BK147.out 3).trans rfl, (blk_cell BK147.out 4).trans rfl⟩ (fun hHeld => ?_)
                  clear hK K
                  refine norm_ (a' := ?_) ?_ ?_
                  rotate_left
                  · show Act.put _ (some 86) _ = _
                    simp only [Act.put, List.setIfInBounds_toArray, List.set_cons_zero, List.set_cons_succ, i64_w, i32_w]
                    rfl
                  refine pure_ (i := 2) (N := some 88) (v := ?_) (a' := ?_) #[true, true, true] rfl rfl (by kernel_rfl) (fun _ _ _ h => h) (Or.inl ⟨by rfl, ?_⟩) ?_ ?_
                  rotate_left
                  · intro w'
                    go_simp
                    with_reducible rfl
                  rotate_left
                  · simp only [Act.put, List.setIfInBounds_toArray, List.set_cons_zero, List.set_cons_succ, i64_w, i32_w]
                    rfl
                  refine done_ (by kernel_rfl) ?_
                  try go_wp2
                  go_roundg k1
                  case measure => have := HK1.out; omega
                  case rel => exact ⟨(wrap64 (x7_1 + 1)), (t192), (t193), (t194), (t195), (t196), (t182), (t183), (t184), (t185), (t186), (by first | rfl | (simp; done) | (simp [*]; done)), H', ⟨by have := HK1.out; omega⟩, ⟨by (with_reducible repeat (first | refine blk_drewN ?_ _ | refine blk_drew ?_ | refine blk_alloc ?_ _)); exact BK139.out⟩, ⟨by (with_reducible repeat (first | refine blk_drewN ?_ _ | refine blk_drew ?_ | refine blk_alloc ?_ _)); exact BK147.out⟩, ⟨by repeat (first | (with_reducible first | exact HI146.out | apply IsS25.alloc | apply IsS25.drewN | apply IsS25.drew | apply IsS25.set_0 | apply IsS25.set_1 | apply IsS25.set_2 | apply IsS25.set_3 | apply IsS25.set_4 | refine IsS25.far ?_ NB146_139.out _ | refine IsS25.far ?_ NB146_147.out _) | exact HI146.out)⟩, ⟨by repeat (first | (with_reducible first | exact HB.out | apply below_alloc | apply pw_below_drewN | apply below_drew1 | refine below_set ?_ (IsS25.ge HI146.out) | refine below_set ?_ GE139.out | refine below_set ?_ GE147.out) | exact HB.out)⟩⟩
              · rw [if_neg c30] at H
                have c30b0 : ((Int.tmod ((rd_T33 l0 x7_1).f0) 3) == 1) = false := beq_eq_false_iff_ne.mpr c30
                have c30b1 : ((Int.tmod ((rd_T33 l0 x7_1).f0) 3) != 1) = true := bne_iff_ne.mpr c30
                replace H := Option.bind_eq_some_iff.mp H
                obtain ⟨⟨t198, t199, t200, t201, t202⟩, A470, H⟩ := H
                replace H : ((tally_Counter_Tally.f t198 t199 t200 t201 t202).bind fun bt204 => (if (!(bt204.1 == x148000_1) || (!(bt204.2.1 == x148001_1) || (!(bt204.2.2.1 == x148002_1) || (!(bt204.2.2.2.1 == x148003_1) || (!(bt204.2.2.2.2.1 == ((rd_T33 l0 x7_1).f1))))))) = true then (some false) else (salvorlaw23_TallyPlays.l0 k1 l0 (wrap64 (x7_1 + 1)) a1_0 a1_1 a1_2 a1_3 a1_4 bt204.2.2.2.2.2.1 bt204.2.2.2.2.2.2.1 bt204.2.2.2.2.2.2.2.1 bt204.2.2.2.2.2.2.2.2.1 bt204.2.2.2.2.2.2.2.2.2 x148000_1 x148001_1 x148002_1 x148003_1 ((rd_T33 l0 x7_1).f1)))) = some r := H
                have A47 := Aside0.mk A470
                clear A470
                replace H := Option.bind_eq_some_iff.mp H
                obtain ⟨⟨t204, t205, t206, t207, t208, t209, t210, t211, t212, t213⟩, A480, H⟩ := H
                replace H : (if (!(t204 == x148000_1) || (!(t205 == x148001_1) || (!(t206 == x148002_1) || (!(t207 == x148003_1) || (!(t208 == ((rd_T33 l0 x7_1).f1))))))) = true then (some false) else (salvorlaw23_TallyPlays.l0 k1 l0 (wrap64 (x7_1 + 1)) a1_0 a1_1 a1_2 a1_3 a1_4 t209 t210 t211 t212 t213 x148000_1 x148001_1 x148002_1 x148003_1 ((rd_T33 l0 x7_1).f1))) = some r := H
                have A48 := Aside0.mk A480
                clear A480
                by_cases c49 : (!(t204 == x148000_1) || (!(t205 == x148001_1) || (!(t206 == x148002_1) || (!(t207 == x148003_1) || (!(t208 == ((rd_T33 l0 x7_1).f1))))))) = true
                · rw [if_pos c49] at H
                  have c49b0 : (!(t204 == x148000_1) || (!(t205 == x148001_1) || (!(t206 == x148002_1) || (!(t207 == x148003_1) || (!(t208 == ((rd_T33 l0 x7_1).f1))))))) = true := c49
                  clear c49
                  exact absurd ((Option.some.inj H).trans HT.out) (by simp)
                · rw [if_neg c49] at H
                  have c49b0 : (!(t204 == x148000_1) || (!(t205 == x148001_1) || (!(t206 == x148002_1) || (!(t207 == x148003_1) || (!(t208 == ((rd_T33 l0 x7_1).f1))))))) = false := by simpa using c49
                  clear c49
                  have H' := Aside0.mk H
                  clear H
                  have p148 : 0 ≤ (x7_1 : Int) := of_decide_eq_true (by first | (with_reducible assumption) | assumption)
                  have q148 : x7_1 < (l0.length : Int) := of_decide_eq_true (by first | (with_reducible assumption) | assumption)
                  obtain ⟨ad148, e148, hx148_0, hx148_1, hx148_2⟩ := at_T33 HR0.out x7_1 p148 q148
                  cases e148
                  replace hx148_0 := (HB.out.cell (World.block_lt_of_cell? w _ hx148_0)).trans hx148_0
                  replace hx148_1 := (HB.out.cell (World.block_lt_of_cell? w _ hx148_1)).trans hx148_1
                  replace hx148_2 := (HB.out.cell (World.block_lt_of_cell? w _ hx148_2)).trans hx148_2
                  replace p148 := eq_true p148
                  replace q148 := eq_true q148
                  have p197 : 0 ≤ (x7_1 : Int) := of_decide_eq_true (by first | (with_reducible assumption) | assumption)
                  have q197 : x7_1 < (l0.length : Int) := of_decide_eq_true (by first | (with_reducible assumption) | assumption)
                  obtain ⟨ad197, e197, hx197_0, hx197_1, hx197_2⟩ := at_T33 HR0.out x7_1 p197 q197
                  obtain rfl : ad148 = ad197 := (by injection e197)
                  replace hx197_0 := (HB.out.cell (World.block_lt_of_cell? w _ hx197_0)).trans hx197_0
                  replace hx197_1 := (HB.out.cell (World.block_lt_of_cell? w _ hx197_1)).trans hx197_1
                  replace hx197_2 := (HB.out.cell (World.block_lt_of_cell? w _ hx197_2)).trans hx197_2
                  replace p197 := eq_true p197
                  replace q197 := eq_true q197
                  try go_wp2_with (first | ((with_reducible refine gate_callee (f := 8) rfl ?_); refine gl_ (some 29) rfl rfl Tryd.func8 (by kernel_rfl) rfl #[.pointer (some ⟨g146, 0, none⟩), .int .i64 ((rd_T33 l0 x7_1).f1)] rfl ?_; (with_reducible refine (tally_Counter_Lines.calls g146 x147000_1 x147001_1 x147002_1 x147003_1 x147004_1 ((rd_T33 l0 x7_1).f1) t198 t199 t200 t201 t202 w _ ?side1 ?side2 A47.out).mono ?_); (case side1 => repeat (first | (with_reducible first | exact HI146.out | apply IsS25.alloc | apply IsS25.drewN | apply IsS25.drew | apply IsS25.set_0 | apply IsS25.set_1 | apply IsS25.set_2 | apply IsS25.set_3 | apply IsS25.set_4 | refine IsS25.far ?_ NB146_139.out _ | refine IsS25.far ?_ NB146_147.out _) | exact HI146.out)); (case side2 => repeat (first | (with_reducible first | exact HB.out | apply below_alloc | apply pw_below_drewN | apply below_drew1 | refine below_set ?_ (IsS25.ge HI146.out) | refine below_set ?_ GE139.out | refine below_set ?_ GE147.out) | exact HB.out)); rintro e w50 ⟨rfl, hi, hb, hk⟩; refine ⟨_, rfl, ?_⟩; replace BK139 := Aside0.mk (KeepBut.blk hk (g' := gb139) (o := .cells #[.int .i64 a1_0, .int .i64 a1_1, .int .i64 a1_2, .int .i64 a1_3, .int .i64 a1_4] 23 (0, 0)) (bq_ BK139) NB139_146.out (by simp)); replace BK147 := Aside0.mk (KeepBut.blk hk (g' := gb147) (o := .cells #[.int .i64 x148000_1, .int .i64 x148001_1, .int .i64 x148002_1, .int .i64 x148003_1, .int .i64 x148004_1] 23 (0, 0)) (bq_ BK147) NB147_146.out (by simp)); replace HB := Aside0.mk (hb); replace HI146 := Aside0.mk (hi); (try clear hb); (try clear hb2); (try clear hk); (try clear hi); have p203 : 0 ≤ (x7_1 : Int) := of_decide_eq_true (by first | (with_reducible assumption) | assumption); have q203 : x7_1 < (l0.length : Int) := of_decide_eq_true (by first | (with_reducible assumption) | assumption); obtain ⟨ad203, e203, hx203_0, hx203_1, hx203_2⟩ := at_T33 HR0.out x7_1 p203 q203; obtain rfl : ad148 = ad203 := (by injection e203); replace hx203_0 := (HB.out.cell (World.block_lt_of_cell? w _ hx203_0)).trans hx203_0; replace hx203_1 := (HB.out.cell (World.block_lt_of_cell? w _ hx203_1)).trans hx203_1; replace hx203_2 := (HB.out.cell (World.block_lt_of_cell? w _ hx203_2)).trans hx203_2; replace p203 := eq_true p203; replace q203 := eq_true q203; have hnb51 := NB147_139.out; have hnc51 := NB139_147.out; have hnb52 := NB147_146.out; have hnc52 := NB146_147.out; have hcz53_0 : w50.cell? ⟨gb147, 0, none⟩ = some (.int .i64 x148000_1) := (blk_cell BK147.out 0).trans rfl; have hcz53_1 : w50.cell? ⟨gb147, 1, none⟩ = some (.int .i64 x148001_1) := (blk_cell BK147.out 1).trans rfl; have hcz53_2 : w50.cell? ⟨gb147, 2, none⟩ = some (.int .i64 x148002_1) := (blk_cell BK147.out 2).trans rfl; have hcz53_3 : w50.cell? ⟨gb147, 3, none⟩ = some (.int .i64 x148003_1) := (blk_cell BK147.out 3).trans rfl; have hcz53_4 : w50.cell? ⟨gb147, 4, none⟩ = some (.int .i64 x148004_1) := (blk_cell BK147.out 4).trans rfl; have hfz53_0 := blk_frozen BK147.out 0; have hfz53_1 := blk_frozen BK147.out 1; have hfz53_2 := blk_frozen BK147.out 2; have hfz53_3 := blk_frozen BK147.out 3; have hfz53_4 := blk_frozen BK147.out 4))
                  have n0_ : Aside0 ((w50.setCell ⟨gb147, 4, none⟩ (.int .i64 ((rd_T33 l0 x7_1).f1))).heap[gb139]? = some (.cells #[.int .i64 a1_0, .int .i64 a1_1, .int .i64 a1_2, .int .i64 a1_3, .int .i64 a1_4] 23 (0, 0))) := ⟨by (with_reducible repeat (first | refine blk_drewN ?_ _ | refine blk_drew ?_ | refine blk_alloc ?_ _)); refine blk_far ?_ NB139_147.out _; (with_reducible repeat (first | refine blk_drewN ?_ _ | refine blk_drew ?_ | refine blk_alloc ?_ _)); exact BK139.out⟩
                  have n1_ : Aside0 ((w50.setCell ⟨gb147, 4, none⟩ (.int .i64 ((rd_T33 l0 x7_1).f1))).heap[gb147]? = some (.cells #[.int .i64 x148000_1, .int .i64 x148001_1, .int .i64 x148002_1, .int .i64 x148003_1, .int .i64 ((rd_T33 l0 x7_1).f1)] 23 (0, 0))) := ⟨by (with_reducible repeat (first | refine blk_drewN ?_ _ | refine blk_drew ?_ | refine blk_alloc ?_ _)); refine blk_put (cs := #[.int .i64 x148000_1, .int .i64 x148001_1, .int .i64 x148002_1, .int .i64 x148003_1, .int .i64 x148004_1]) ?_ 4 _ rfl; (with_reducible repeat (first | refine blk_drewN ?_ _ | refine blk_drew ?_ | refine blk_alloc ?_ _)); exact BK147.out⟩
                  have n2_ : Aside0 (IsS25 w (w50.setCell ⟨gb147, 4, none⟩ (.int .i64 ((rd_T33 l0 x7_1).f1))) g146 t198 t199 t200 t201 t202) := ⟨by repeat (first | (with_reducible first | exact HI146.out | apply IsS25.alloc | apply IsS25.drewN | apply IsS25.drew | apply IsS25.set_0 | apply IsS25.set_1 | apply IsS25.set_2 | apply IsS25.set_3 | apply IsS25.set_4 | refine IsS25.far ?_ NB146_139.out _ | refine IsS25.far ?_ NB146_147.out _) | exact HI146.out)⟩
                  have n3_ : Aside0 (Below w.heap.size w (w50.setCell ⟨gb147, 4, none⟩ (.int .i64 ((rd_T33 l0 x7_1).f1)))) := ⟨by repeat (first | (with_reducible first | exact HB.out | apply below_alloc | apply pw_below_drewN | apply below_drew1 | refine below_set ?_ (IsS25.ge HI146.out) | refine below_set ?_ GE139.out | refine below_set ?_ GE147.out) | exact HB.out)⟩
                  (try clear BK139)
                  (try clear BK147)
                  (try clear HI146)
                  (try clear HB)
                  generalize (w50.setCell ⟨gb147, 4, none⟩ (.int .i64 ((rd_T33 l0 x7_1).f1))) = w54 at n0_ n1_ n2_ n3_ ⊢
                  have BK139 := n0_
                  have BK147 := n1_
                  have HI146 := n2_
                  have HB := n3_
                  clear n0_ n1_ n2_ n3_
                  replace BK139 := Aside0.mk (blk_drew BK139.out)
                  replace BK147 := Aside0.mk (blk_drew BK147.out)
                  replace HI146 := Aside0.mk (IsS25.drew HI146.out)
                  replace HB := Aside0.mk (below_drew1 HB.out)
                  refine start_ (n := 3) (S := fun w' => w'.cell? ⟨gb147, 0, none⟩ = some (.int .i64 x148000_1) ∧ w'.cell? ⟨gb147, 1, none⟩ = some (.int .i64 x148001_1) ∧ w'.cell? ⟨gb147, 2, none⟩ = some (.int .i64 x148002_1) ∧ w'.cell? ⟨gb147, 3, none⟩ = some (.int .i64 x148003_1) ∧ w'.cell? ⟨gb147, 4, none⟩ = some (.int .i64 ((rd_T33 l0 x7_1).f1))) (ds := []) #[false, false, false] (by kernel_rfl) rfl rfl ⟨(blk_cell BK147.out 0).trans rfl, (blk_cell BK147.out 1).trans rfl, (blk_cell BK147.out 2).trans rfl, (blk_cell BK147.out 3).trans rfl, (blk_cell BK147.out 4).trans rfl⟩ (fun hHeld => ?_)
                  generalize w54.drew = w55 at BK139 BK147 HI146 HB hHeld ⊢
                  refine take_ (i := 1) (N := some 87) (v := ?_) (a' := ?_) #[false, true, false] rfl rfl (by kernel_rfl) (fun _ _ _ h => h) (Or.inl ⟨by rfl, ?_⟩) hHeld ?_ ?_
                  rotate_left
                  · rintro w' ⟨s0, s1, s2, s3, s4⟩
                    go_simp
                    with_reducible rfl
                  rotate_left
                  · simp only [Act.put, List.setIfInBounds_toArray, List.set_cons_zero, List.set_cons_succ, i64_w, i32_w]
                    rfl
                  refine one_ (i := 0) (N := some 86) #[true, true, false] rfl rfl (by kernel_rfl) (by decide) (fun K hK => ?_)
                  refine gq_ Tryd.func9 (by kernel_rfl) rfl #[.pointer (some ⟨g146, 0, none⟩)] (by rfl) rfl rfl ?_
                  with_reducible refine (tally_Counter_Tally.calls g146 t198 t199 t200 t201 t202 t204 t205 t206 t207 t208 t209 t210 t211 t212 t213 w _ ?side1 ?side2 A48.out).mono ?_
                  (case side1 => repeat (first | (with_reducible first | exact HI146.out | apply IsS25.alloc | apply IsS25.drewN | apply IsS25.drew | apply IsS25.set_0 | apply IsS25.set_1 | apply IsS25.set_2 | apply IsS25.set_3 | apply IsS25.set_4 | refine IsS25.far ?_ NB146_139.out _ | refine IsS25.far ?_ NB146_147.out _) | exact HI146.out))
                  (case side2 => repeat (first | (with_reducible first | exact HB.out | apply below_alloc | apply pw_below_drewN | apply below_drew1 | refine below_set ?_ (IsS25.ge HI146.out) | refine below_set ?_ GE139.out | refine below_set ?_ GE147.out) | exact HB.out))
                  rintro e w56 ⟨rfl, hi, hb, hk⟩
                  refine ⟨_, rfl, ?_⟩
                  replace BK139 := Aside0.mk (KeepBut.blk hk (g' := gb139) (o := .cells #[.int .i64 a1_0, .int .i64 a1_1, .int .i64 a1_2, .int .i64 a1_3, .int .i64 a1_4] 23 (0, 0)) (bq_ BK139) NB139_146.out (by simp))
                  replace BK147 := Aside0.mk (KeepBut.blk hk (g' := gb147) (o := .cells #[.int .i64 x148000_1, .int .i64 x148001_1, .int .i64 x148002_1, .int .i64 x148003_1, .int .i64 ((rd_T33 l0 x7_1).f1)] 23 (0, 0)) (bq_ BK147) NB147_146.out (by simp))
                  replace HB := Aside0.mk (hb)
                  replace HI146 := Aside0.mk (hi)
                  (try clear hb)
                  (try clear hb2)
                  (try clear hk)
                  (try clear hi)
                  refine hK.out _ _ ⟨(blk_cell BK147.out 0).trans rfl, (blk_cell BK147.out 1).trans rfl, (blk_cell BK147.out 2).trans rfl, (blk_cell BK147.out 3).trans rfl, (blk_cell BK147.out 4).trans rfl⟩ (fun hHeld => ?_)
                  clear hK K
                  refine norm_ (a' := ?_) ?_ ?_
                  rotate_left
                  · show Act.put _ (some 86) _ = _
                    simp only [Act.put, List.setIfInBounds_toArray, List.set_cons_zero, List.set_cons_succ, i64_w, i32_w]
                    rfl
                  refine pure_ (i := 2) (N := some 88) (v := ?_) (a' := ?_) #[true, true, true] rfl rfl (by kernel_rfl) (fun _ _ _ h => h) (Or.inl ⟨by rfl, ?_⟩) ?_ ?_
                  rotate_left
                  · intro w'
                    go_simp
                    with_reducible rfl
                  rotate_left
                  · simp only [Act.put, List.setIfInBounds_toArray, List.set_cons_zero, List.set_cons_succ, i64_w, i32_w]
                    rfl
                  refine done_ (by kernel_rfl) ?_
                  try go_wp2
                  go_roundg k1
                  case measure => have := HK1.out; omega
                  case rel => exact ⟨(wrap64 (x7_1 + 1)), (t209), (t210), (t211), (t212), (t213), (x148000_1), (x148001_1), (x148002_1), (x148003_1), ((rd_T33 l0 x7_1).f1), (by first | rfl | (simp; done) | (simp [*]; done)), H', ⟨by have := HK1.out; omega⟩, ⟨by (with_reducible repeat (first | refine blk_drewN ?_ _ | refine blk_drew ?_ | refine blk_alloc ?_ _)); exact BK139.out⟩, ⟨by (with_reducible repeat (first | refine blk_drewN ?_ _ | refine blk_drew ?_ | refine blk_alloc ?_ _)); exact BK147.out⟩, ⟨by repeat (first | (with_reducible first | exact HI146.out | apply IsS25.alloc | apply IsS25.drewN | apply IsS25.drew | apply IsS25.set_0 | apply IsS25.set_1 | apply IsS25.set_2 | apply IsS25.set_3 | apply IsS25.set_4 | refine IsS25.far ?_ NB146_139.out _ | refine IsS25.far ?_ NB146_147.out _) | exact HI146.out)⟩, ⟨by repeat (first | (with_reducible first | exact HB.out | apply below_alloc | apply pw_below_drewN | apply below_drew1 | refine below_set ?_ (IsS25.ge HI146.out) | refine below_set ?_ GE139.out | refine below_set ?_ GE147.out) | exact HB.out)⟩⟩
          · rw [if_neg c12] at H
            exact absurd H (by simp)
        · rw [if_neg c11] at H
          have c11b0 : decide (x7_1 < (l0.length : Int)) = false := decide_eq_false c11
          clear c11
          replace H := Option.bind_eq_some_iff.mp H
          obtain ⟨t214, A570, H⟩ := H
          replace H : ((salvorref22_Text.f k1 x148000_1 x148001_1 x148002_1 x148003_1 x148004_1).bind fun t215 => (if t214.toList = t215.toList then ((tally_Text.f a1_0 a1_1 a1_2 a1_3 a1_4).bind fun t216 => ((salvorref22_Text.f k1 a1_0 a1_1 a1_2 a1_3 a1_4).bind fun t217 => (if t216.toList = t217.toList then ((salvorlaw23_TallyRuns.f).bind fun t218 => (some t218)) else (some false)))) else (some false))) = some r := H
          have A57 := Aside0.mk A570
          clear A570
          replace H := Option.bind_eq_some_iff.mp H
          obtain ⟨t215, A580, H⟩ := H
          replace H : (if t214.toList = t215.toList then ((tally_Text.f a1_0 a1_1 a1_2 a1_3 a1_4).bind fun t216 => ((salvorref22_Text.f k1 a1_0 a1_1 a1_2 a1_3 a1_4).bind fun t217 => (if t216.toList = t217.toList then ((salvorlaw23_TallyRuns.f).bind fun t218 => (some t218)) else (some false)))) else (some false)) = some r := H
          have A58 := Aside0.mk A580
          clear A580
          by_cases c59 : t214.toList = t215.toList
          · rw [if_pos c59] at H
            have c59b0 : (t214.toList == t215.toList) = true := beq_iff_eq.mpr c59
            have c59b1 : (t214.toList != t215.toList) = false := bne_eq_false_iff_eq.mpr c59
            clear c59
            replace H := Option.bind_eq_some_iff.mp H
            obtain ⟨t216, A600, H⟩ := H
            replace H : ((salvorref22_Text.f k1 a1_0 a1_1 a1_2 a1_3 a1_4).bind fun t217 => (if t216.toList = t217.toList then ((salvorlaw23_TallyRuns.f).bind fun t218 => (some t218)) else (some false))) = some r := H
            have A60 := Aside0.mk A600
            clear A600
            replace H := Option.bind_eq_some_iff.mp H
            obtain ⟨t217, A610, H⟩ := H
            replace H : (if t216.toList = t217.toList then ((salvorlaw23_TallyRuns.f).bind fun t218 => (some t218)) else (some false)) = some r := H
            have A61 := Aside0.mk A610
            clear A610
            by_cases c62 : t216.toList = t217.toList
            · rw [if_pos c62] at H
              have c62b0 : (t216.toList == t217.toList) = true := beq_iff_eq.mpr c62
              have c62b1 : (t216.toList != t217.toList) = false := bne_eq_false_iff_eq.mpr c62
              clear c62
              replace H := Option.bind_eq_some_iff.mp H
              obtain ⟨t218, A630, H⟩ := H
              replace H : (some t218) = some r := H
              have A63 := Aside0.mk A630
              clear A630
              obtain rfl := Option.some.inj H
              try go_wp2
              replace BK139 := Aside0.mk (blk_drew BK139.out)
              replace BK147 := Aside0.mk (blk_drew BK147.out)
              replace HI146 := Aside0.mk (IsS25.drew HI146.out)
              replace HB := Aside0.mk (below_drew1 HB.out)
              refine start_ (n := 16) (S := fun w' => w'.cell? ⟨gb147, 0, none⟩ = some (.int .i64 x148000_1) ∧ w'.cell? ⟨gb147, 1, none⟩ = some (.int .i64 x148001_1) ∧ w'.cell? ⟨gb147, 2, none⟩ = some (.int .i64 x148002_1) ∧ w'.cell? ⟨gb147, 3, none⟩ = some (.int .i64 x148003_1) ∧ w'.cell? ⟨gb147, 4, none⟩ = some (.int .i64 x148004_1) ∧ w'.cell? ⟨gb139, 0, none⟩ = some (.int .i64 a1_0) ∧ w'.cell? ⟨gb139, 1, none⟩ = some (.int .i64 a1_1) ∧ w'.cell? ⟨gb139, 2, none⟩ = some (.int .i64 a1_2) ∧ w'.cell? ⟨gb139, 3, none⟩ = some (.int .i64 a1_3) ∧ w'.cell? ⟨gb139, 4, none⟩ = some (.int .i64 a1_4)) (ds := []) #[false, false, false, false, false, false, false, false, false, false, false, false, false, false, false, false] (by kernel_rfl) rfl rfl ⟨(blk_cell BK147.out 0).trans rfl, (blk_cell BK147.out 1).trans rfl, (blk_cell BK147.out 2).trans rfl, (blk_cell BK147.out 3).trans rfl, (blk_cell BK147.out 4).trans rfl, (blk_cell BK139.out 0).trans rfl, (blk_cell BK139.out 1).trans rfl, (blk_cell BK139.out 2).trans rfl, (blk_cell BK139.out 3).trans rfl, (blk_cell BK139.out 4).trans rfl⟩ (fun hHeld => ?_); refine with_tabW salvorlaw23_TallyPlays.tab19 salvorlaw23_TallyPlays.bits19 (fun HT_ HW_ => ?_)
              generalize wr.drew = w64 at BK139 BK147 HI146 HB hHeld ⊢
              refine take_ (i := 0) (N := some 89) (v := ?_) (a' := ?_) #[true, false, false, false, false, false, false, false, false, false, false, false, false, false, false, false] rfl rfl (take_ofW HT_.out HW_.out (by kernel_rfl)) (fun _ _ _ h => h) (Or.inl ⟨by rfl, ?_⟩) hHeld ?_ ?_
              rotate_left
              · rintro w' ⟨s0, s1, s2, s3, s4, s5, s6, s7, s8, s9⟩
                go_simp
                with_reducible rfl
              rotate_left
              · simp only [Act.put, List.setIfInBounds_toArray, List.set_cons_zero, List.set_cons_succ, i64_w, i32_w]
                rfl
              refine take_ (i := 2) (N := some 91) (v := ?_) (a' := ?_) #[true, false, true, false, false, false, false, false, false, false, false, false, false, false, false, false] rfl rfl (take_ofW HT_.out HW_.out (by kernel_rfl)) (fun _ _ _ h => h) (Or.inl ⟨by rfl, ?_⟩) hHeld ?_ ?_
              rotate_left
              · rintro w' ⟨s0, s1, s2, s3, s4, s5, s6, s7, s8, s9⟩
                go_simp
                with_reducible rfl
              rotate_left
              · simp only [Act.put, List.setIfInBounds_toArray, List.set_cons_zero, List.set_cons_succ, i64_w, i32_w]
                rfl
              refine one_ (i := 1) (N := some 90) #[true, true, true, false, false, false, false, false, false, false, false, false, false, false, false, false] rfl rfl (one_of HT_.out (by kernel_rfl)) (by decide) (fun K hK => ?_)
              refine gq_ Tryd.func10 (by kernel_rfl) rfl #[.agg #[.int .i64 x148000_1, .int .i64 x148001_1, .int .i64 x148002_1, .int .i64 x148003_1, .int .i64 x148004_1]] (by rfl) rfl rfl ?_
              with_reducible refine (tally_Text.calls x148000_1 x148001_1 x148002_1 x148003_1 x148004_1 t214 _ A57.out ?tb2_).mono ?_
              (case tb2_ => exact tb_ HTAB HB)
              rintro e w65 ⟨rfl, hb⟩
              refine ⟨_, rfl, ?_⟩
              replace BK139 := bb_ BK139 hb
              replace BK147 := bb_ BK147 hb
              replace HB := Aside0.mk (below_step (by repeat (first | (with_reducible first | exact HB.out | apply below_alloc | apply pw_below_drewN | apply below_drew1 | refine below_set ?_ (IsS25.ge HI146.out) | refine below_set ?_ GE139.out | refine below_set ?_ GE147.out) | exact HB.out)) hb)
              replace HI146 := Aside0.mk (IsS25.below (by repeat (first | (with_reducible first | exact HI146.out | apply IsS25.alloc | apply IsS25.drewN | apply IsS25.drew | apply IsS25.set_0 | apply IsS25.set_1 | apply IsS25.set_2 | apply IsS25.set_3 | apply IsS25.set_4 | refine IsS25.far ?_ NB146_139.out _ | refine IsS25.far ?_ NB146_147.out _) | exact HI146.out)) hb)
              (try clear hb)
              (try clear hb2)
              (try clear hk)
              (try clear hi)
              refine hK.out _ _ ⟨(blk_cell BK147.out 0).trans rfl, (blk_cell BK147.out 1).trans rfl, (blk_cell BK147.out 2).trans rfl, (blk_cell BK147.out 3).trans rfl, (blk_cell BK147.out 4).trans rfl, (blk_cell BK139.out 0).trans rfl, (blk_cell BK139.out 1).trans rfl, (blk_cell BK139.out 2).trans rfl, (blk_cell BK139.out 3).trans rfl, (blk_cell BK139.out 4).trans rfl⟩ (fun hHeld => ?_)
              clear hK K
              refine norm_ (a' := ?_) ?_ ?_
              rotate_left
              · show Act.put _ (some 90) _ = _
                simp only [Act.put, List.setIfInBounds_toArray, List.set_cons_zero, List.set_cons_succ, i64_w, i32_w]
                rfl
              refine one_ (i := 3) (N := some 92) #[true, true, true, true, false, false, false, false, false, false, false, false, false, false, false, false] rfl rfl (one_of HT_.out (by kernel_rfl)) (by decide) (fun K hK => ?_)
              refine gq_ Tryd.func13 (by kernel_rfl) rfl #[.agg #[.int .i64 x148000_1, .int .i64 x148001_1, .int .i64 x148002_1, .int .i64 x148003_1, .int .i64 x148004_1]] (by rfl) rfl rfl ?_
              with_reducible refine (salvorref22_Text.calls k1 x148000_1 x148001_1 x148002_1 x148003_1 x148004_1 t215 _ A58.out).mono ?_
              rintro e w66 ⟨rfl, hb⟩
              refine ⟨_, rfl, ?_⟩
              replace BK139 := bb_ BK139 hb
              replace BK147 := bb_ BK147 hb
              replace HB := Aside0.mk (below_step (by repeat (first | (with_reducible first | exact HB.out | apply below_alloc | apply pw_below_drewN | apply below_drew1 | refine below_set ?_ (IsS25.ge HI146.out) | refine below_set ?_ GE139.out | refine below_set ?_ GE147.out) | exact HB.out)) hb)
              replace HI146 := Aside0.mk (IsS25.below (by repeat (first | (with_reducible first | exact HI146.out | apply IsS25.alloc | apply IsS25.drewN | apply IsS25.drew | apply IsS25.set_0 | apply IsS25.set_1 | apply IsS25.set_2 | apply IsS25.set_3 | apply IsS25.set_4 | refine IsS25.far ?_ NB146_139.out _ | refine IsS25.far ?_ NB146_147.out _) | exact HI146.out)) hb)
              (try clear hb)
              (try clear hb2)
              (try clear hk)
              (try clear hi)
              refine hK.out _ _ ⟨(blk_cell BK147.out 0).trans rfl, (blk_cell BK147.out 1).trans rfl, (blk_cell BK147.out 2).trans rfl, (blk_cell BK147.out 3).trans rfl, (blk_cell BK147.out 4).trans rfl, (blk_cell BK139.out 0).trans rfl, (blk_cell BK139.out 1).trans rfl, (blk_cell BK139.out 2).trans rfl, (blk_cell BK139.out 3).trans rfl, (blk_cell BK139.out 4).trans rfl⟩ (fun hHeld => ?_)
              clear hK K
              refine norm_ (a' := ?_) ?_ ?_
              rotate_left
              · show Act.put _ (some 92) _ = _
                simp only [Act.put, List.setIfInBounds_toArray, List.set_cons_zero, List.set_cons_succ, i64_w, i32_w]
                rfl
              refine pu_ 4 93 (lb_ 16 31) rfl rfl (any_of HT_.out (by kernel_rfl)) ?_
              refine pu_ 5 94 (lb_ 16 63) rfl rfl (any_of HT_.out (by kernel_rfl)) ?_
              refine take_ (i := 6) (N := some 95) (v := ?_) (a' := ?_) #[true, true, true, true, true, true, true, false, false, false, false, false, false, false, false, false] rfl rfl (take_ofW HT_.out HW_.out (by kernel_rfl)) (fun _ _ _ h => h) (Or.inl ⟨by rfl, ?_⟩) hHeld ?_ ?_
              rotate_left
              · rintro w' ⟨s0, s1, s2, s3, s4, s5, s6, s7, s8, s9⟩
                go_simp
                with_reducible rfl
              rotate_left
              · simp only [Act.put, List.setIfInBounds_toArray, List.set_cons_zero, List.set_cons_succ, i64_w, i32_w]
                rfl
              refine take_ (i := 8) (N := some 97) (v := ?_) (a' := ?_) #[true, true, true, true, true, true, true, false, true, false, false, false, false, false, false, false] rfl rfl (take_ofW HT_.out HW_.out (by kernel_rfl)) (fun _ _ _ h => h) (Or.inl ⟨by rfl, ?_⟩) hHeld ?_ ?_
              rotate_left
              · rintro w' ⟨s0, s1, s2, s3, s4, s5, s6, s7, s8, s9⟩
                go_simp
                with_reducible rfl
              rotate_left
              · simp only [Act.put, List.setIfInBounds_toArray, List.set_cons_zero, List.set_cons_succ, i64_w, i32_w]
                rfl
              refine one_ (i := 7) (N := some 96) #[true, true, true, true, true, true, true, true, true, false, false, false, false, false, false, false] rfl rfl (one_of HT_.out (by kernel_rfl)) (by decide) (fun K hK => ?_)
              refine gq_ Tryd.func10 (by kernel_rfl) rfl #[.agg #[.int .i64 a1_0, .int .i64 a1_1, .int .i64 a1_2, .int .i64 a1_3, .int .i64 a1_4]] (by rfl) rfl rfl ?_
              with_reducible refine (tally_Text.calls a1_0 a1_1 a1_2 a1_3 a1_4 t216 _ A60.out ?tb4_).mono ?_
              (case tb4_ => exact tb_ HTAB HB)
              rintro e w67 ⟨rfl, hb⟩
              refine ⟨_, rfl, ?_⟩
              replace BK139 := bb_ BK139 hb
              replace BK147 := bb_ BK147 hb
              replace HB := Aside0.mk (below_step (by repeat (first | (with_reducible first | exact HB.out | apply below_alloc | apply pw_below_drewN | apply below_drew1 | refine below_set ?_ (IsS25.ge HI146.out) | refine below_set ?_ GE139.out | refine below_set ?_ GE147.out) | exact HB.out)) hb)
              replace HI146 := Aside0.mk (IsS25.below (by repeat (first | (with_reducible first | exact HI146.out | apply IsS25.alloc | apply IsS25.drewN | apply IsS25.drew | apply IsS25.set_0 | apply IsS25.set_1 | apply IsS25.set_2 | apply IsS25.set_3 | apply IsS25.set_4 | refine IsS25.far ?_ NB146_139.out _ | refine IsS25.far ?_ NB146_147.out _) | exact HI146.out)) hb)
              (try clear hb)
              (try clear hb2)
              (try clear hk)
              (try clear hi)
              refine hK.out _ _ ⟨(blk_cell BK147.out 0).trans rfl, (blk_cell BK147.out 1).trans rfl, (blk_cell BK147.out 2).trans rfl, (blk_cell BK147.out 3).trans rfl, (blk_cell BK147.out 4).trans rfl, (blk_cell BK139.out 0).trans rfl, (blk_cell BK139.out 1).trans rfl, (blk_cell BK139.out 2).trans rfl, (blk_cell BK139.out 3).trans rfl, (blk_cell BK139.out 4).trans rfl⟩ (fun hHeld => ?_)
              clear hK K
              refine norm_ (a' := ?_) ?_ ?_
              rotate_left
              · show Act.put _ (some 96) _ = _
                simp only [Act.put, List.setIfInBounds_toArray, List.set_cons_zero, List.set_cons_succ, i64_w, i32_w]
                rfl
              refine one_ (i := 9) (N := some 98) #[true, true, true, true, true, true, true, true, true, true, false, false, false, false, false, false] rfl rfl (one_of HT_.out (by kernel_rfl)) (by decide) (fun K hK => ?_)
              refine gq_ Tryd.func13 (by kernel_rfl) rfl #[.agg #[.int .i64 a1_0, .int .i64 a1_1, .int .i64 a1_2, .int .i64 a1_3, .int .i64 a1_4]] (by rfl) rfl rfl ?_
              with_reducible refine (salvorref22_Text.calls k1 a1_0 a1_1 a1_2 a1_3 a1_4 t217 _ A61.out).mono ?_
              rintro e w68 ⟨rfl, hb⟩
              refine ⟨_, rfl, ?_⟩
              replace BK139 := bb_ BK139 hb
              replace BK147 := bb_ BK147 hb
              replace HB := Aside0.mk (below_step (by repeat (first | (with_reducible first | exact HB.out | apply below_alloc | apply pw_below_drewN | apply below_drew1 | refine below_set ?_ (IsS25.ge HI146.out) | refine below_set ?_ GE139.out | refine below_set ?_ GE147.out) | exact HB.out)) hb)
              replace HI146 := Aside0.mk (IsS25.below (by repeat (first | (with_reducible first | exact HI146.out | apply IsS25.alloc | apply IsS25.drewN | apply IsS25.drew | apply IsS25.set_0 | apply IsS25.set_1 | apply IsS25.set_2 | apply IsS25.set_3 | apply IsS25.set_4 | refine IsS25.far ?_ NB146_139.out _ | refine IsS25.far ?_ NB146_147.out _) | exact HI146.out)) hb)
              (try clear hb)
              (try clear hb2)
              (try clear hk)
              (try clear hi)
              refine hK.out _ _ ⟨(blk_cell BK147.out 0).trans rfl, (blk_cell BK147.out 1).trans rfl, (blk_cell BK147.out 2).trans rfl, (blk_cell BK147.out 3).trans rfl, (blk_cell BK147.out 4).trans rfl, (blk_cell BK139.out 0).trans rfl, (blk_cell BK139.out 1).trans rfl, (blk_cell BK139.out 2).trans rfl, (blk_cell BK139.out 3).trans rfl, (blk_cell BK139.out 4).trans rfl⟩ (fun hHeld => ?_)
              clear hK K
              refine norm_ (a' := ?_) ?_ ?_
              rotate_left
              · show Act.put _ (some 98) _ = _
                simp only [Act.put, List.setIfInBounds_toArray, List.set_cons_zero, List.set_cons_succ, i64_w, i32_w]
                rfl
              refine pu_ 10 99 (lb_ 16 2047) rfl rfl (any_of HT_.out (by kernel_rfl)) ?_
              refine pu_ 11 100 (lb_ 16 4095) rfl rfl (any_of HT_.out (by kernel_rfl)) ?_
              refine pu_ 12 101 (lb_ 16 8191) rfl rfl (any_of HT_.out (by kernel_rfl)) ?_
              refine one_ (i := 13) (N := some 102) #[true, true, true, true, true, true, true, true, true, true, true, true, true, true, false, false] rfl rfl (one_of HT_.out (by kernel_rfl)) (by decide) (fun K hK => ?_)
              refine gq_ Tryd.func3 (by kernel_rfl) rfl #[] (by rfl) rfl rfl ?_
              with_reducible refine (salvorlaw23_TallyRuns.calls  t218 _ A63.out ?tb6_).mono ?_
              (case tb6_ => exact tb_ HTAB HB)
              rintro e w69 ⟨rfl, hb⟩
              refine ⟨_, rfl, ?_⟩
              replace BK139 := bb_ BK139 hb
              replace BK147 := bb_ BK147 hb
              replace HB := Aside0.mk (below_step (by repeat (first | (with_reducible first | exact HB.out | apply below_alloc | apply pw_below_drewN | apply below_drew1 | refine below_set ?_ (IsS25.ge HI146.out) | refine below_set ?_ GE139.out | refine below_set ?_ GE147.out) | exact HB.out)) hb)
              replace HI146 := Aside0.mk (IsS25.below (by repeat (first | (with_reducible first | exact HI146.out | apply IsS25.alloc | apply IsS25.drewN | apply IsS25.drew | apply IsS25.set_0 | apply IsS25.set_1 | apply IsS25.set_2 | apply IsS25.set_3 | apply IsS25.set_4 | refine IsS25.far ?_ NB146_139.out _ | refine IsS25.far ?_ NB146_147.out _) | exact HI146.out)) hb)
              (try clear hb)
              (try clear hb2)
              (try clear hk)
              (try clear hi)
              refine hK.out _ _ ⟨(blk_cell BK147.out 0).trans rfl, (blk_cell BK147.out 1).trans rfl, (blk_cell BK147.out 2).trans rfl, (blk_cell BK147.out 3).trans rfl, (blk_cell BK147.out 4).trans rfl, (blk_cell BK139.out 0).trans rfl, (blk_cell BK139.out 1).trans rfl, (blk_cell BK139.out 2).trans rfl, (blk_cell BK139.out 3).trans rfl, (blk_cell BK139.out 4).trans rfl⟩ (fun hHeld => ?_)
              clear hK K
              refine norm_ (a' := ?_) ?_ ?_
              rotate_left
              · show Act.put _ (some 102) _ = _
                simp only [Act.put, List.setIfInBounds_toArray, List.set_cons_zero, List.set_cons_succ, i64_w, i32_w]
                rfl
              refine pu_ 14 103 (lb_ 16 32767) rfl rfl (any_of HT_.out (by kernel_rfl)) ?_
              refine pu_ 15 4 (lb_ 16 65535) rfl rfl (any_of HT_.out (by kernel_rfl)) ?_
              refine done_ (done_of HT_.out (by kernel_rfl)) ?_
              try go_wp2
              go_ret
              exact ⟨by first | rfl | (simp [errW_none, errW_some] <;> rfl) | (simp [*, errW_none, errW_some] <;> rfl), by repeat (first | (with_reducible first | exact HB.out | apply below_alloc | apply pw_below_drewN | apply below_drew1 | refine below_set ?_ (IsS25.ge HI146.out) | refine below_set ?_ GE139.out | refine below_set ?_ GE147.out) | exact HB.out)⟩
            · rw [if_neg c62] at H
              have c62b0 : (t216.toList == t217.toList) = false := beq_eq_false_iff_ne.mpr c62
              have c62b1 : (t216.toList != t217.toList) = true := bne_iff_ne.mpr c62
              exact absurd ((Option.some.inj H).trans HT.out) (by simp)
          · rw [if_neg c59] at H
            have c59b0 : (t214.toList == t215.toList) = false := beq_eq_false_iff_ne.mpr c59
            have c59b1 : (t214.toList != t215.toList) = true := bne_iff_ne.mpr c59
            exact absurd ((Option.some.inj H).trans HT.out) (by simp)

end Go.Proofs.YtabmegbapfajoaaDoor.P
