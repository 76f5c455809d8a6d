/- Laid by a program of this session's own (wip/wprint.py, over the kit's print.py): functions of the given program as plain Lean functions, and that the program's calls come to their answers. -/
import Derived.Test.YtnoilinjlelpaaaPx0
import Derived.Test.YtnoilinjlelpaaaPx1
import Derived.Test.YtnoilinjlelpaaaPx3
import Derived.Test.YtnoilinjlelpaaaPx12
import Derived.Test.YtnoilinjlelpaaaPx16
import Derived.Test.YtnoilinjlelpaaaPx18
import Derived.Test.YtnoilinjlelpaaaPx19
import Derived.Test.YtnoilinjlelpaaaPx38
import Derived.Test.YtnoilinjlelpaaaPx41
import Derived.Test.YtnoilinjlelpaaaPx45
namespace Go.Proofs.Ytnoilinjlelpaaa.P
open Go.RowKit Go.Proofs.YtnoilinjlelpaaaW.PrintWords Go.Proofs.YtnoilinjlelpaaaW.PrintLast Go.Proofs.YtnoilinjlelpaaaW.PrintMore
attribute [local go_sem] max2_int min2_int max_two min_two max_three min_three max_four min_four   -- for this text's walks alone
set_option linter.unusedVariables false
set_option linter.unusedSimpArgs false

attribute [local go_sem high] eqA29
/-! ### salvorlaw18_PlanRetries: function 10 -/
mutual
def salvorlaw18_PlanRetries.l0 : Nat → Bool → Int → Int → Int → Int → Int → Bool → Int → Int → Int → List (S33) → Option (Bool)
  | 0, _, _, _, _, _, _, _, _, _, _, _ => none
  | k + 1, x2, x7, x10, x11, x804000, x804001, x804002, x817000, x817001, x817002, x817003 => if x11 < (wrap64 (x10 * x804001)) then (if x10 = 0 then (none) else (if x2 = true then (salvorlaw18_PlanRetries.j1 k x2 x7 x10 x11 (wrap64 ((wrap64 (x10 - 1)) - (Int.tmod x11 x10))) x804000 x804001 x804002 x817000 x817001 x817002 x817003) else (salvorlaw18_PlanRetries.j1 k x2 x7 x10 x11 (Int.tmod x11 x10) x804000 x804001 x804002 x817000 x817001 x817002 x817003))) else ((plan_Next.f k x804000 x804001 x804002 x817000 x817001 x817002 x817003).bind fun bt817 => (if (bt817.1 == 0 && (bt817.2.1 == 0 && (bt817.2.2 == 0))) = true then (if x817002 = 43 then ((region_Count.f k x817003 (([45] : List Int))).bind fun t823 => (if t823 = x7 then ((salvorlaw18_PlanRuns.f k).bind fun t824 => (some t824)) else (some false))) else (some false)) else (some false)))
def salvorlaw18_PlanRetries.j1 : Nat → Bool → Int → Int → Int → Int → Int → Int → Bool → Int → Int → Int → List (S33) → Option (Bool)
  | 0, _, _, _, _, _, _, _, _, _, _, _, _ => none
  | k + 1, x2, x7, x10, x11, x12, x804000, x804001, x804002, x817000, x817001, x817002, x817003 => (plan_Next.f k x804000 x804001 x804002 x817000 x817001 x817002 x817003).bind fun bt825 => (if (!(bt825.1 == 4) || (!(bt825.2.1 == (wrap64 (x12 * 8))) || (!(bt825.2.2 == (mn 8 (wrap64 (x7 - (wrap64 (x12 * 8))))))))) = true then (some false) else (if x817002 = 45 then ((plan_After.f k x804000 x804001 x804002 x817000 x817001 x817002 x817003 0).bind fun bt829 => (salvorlaw18_PlanRetries.l0 k x2 x7 x10 (wrap64 (x11 + 1)) x804000 x804001 x804002 bt829.1 bt829.2.1 bt829.2.2.1 bt829.2.2.2)) else (some false)))
end
def salvorlaw18_PlanRetries.f (k : Nat) (a0 : Int) (a1 : Int) (a2 : Bool) : Option (Bool) := (salvorlaw18_Opts.f 0 a1 a2).bind fun bt800 => ((region_New.f (wrap64 (a0))).bind fun t804 => ((region_Set.f k t804 0 (wrap64 (a0)) 45).bind fun t807 => ((plan_Begin.f k bt800.1 bt800.2.1 bt800.2.2 0 0 63 t807).bind fun bt810 => (salvorlaw18_PlanRetries.l0 k a2 (wrap64 (a0)) (wrap64 (Int.tdiv (wrap64 ((wrap64 ((wrap64 (a0)) + 8)) - 1)) 8)) 0 bt800.1 bt800.2.1 bt800.2.2 bt810.1 bt810.2.1 bt810.2.2.1 bt810.2.2.2))))
theorem salvorlaw18_PlanRetries.mono_l : ∀ k, (∀ y0 y1 y2 y3 y4 y5 y6 y7 y8 y9 y10, LeO (salvorlaw18_PlanRetries.l0 k y0 y1 y2 y3 y4 y5 y6 y7 y8 y9 y10) (salvorlaw18_PlanRetries.l0 (k + 1) y0 y1 y2 y3 y4 y5 y6 y7 y8 y9 y10)) ∧ (∀ y0 y1 y2 y3 y4 y5 y6 y7 y8 y9 y10 y11, LeO (salvorlaw18_PlanRetries.j1 k y0 y1 y2 y3 y4 y5 y6 y7 y8 y9 y10 y11) (salvorlaw18_PlanRetries.j1 (k + 1) y0 y1 y2 y3 y4 y5 y6 y7 y8 y9 y10 y11))
  | 0 => ⟨fun _ _ _ _ _ _ _ _ _ _ _ r h => by simp [salvorlaw18_PlanRetries.l0] at h, fun _ _ _ _ _ _ _ _ _ _ _ _ r h => by simp [salvorlaw18_PlanRetries.j1] at h⟩
  | k + 1 => by
    obtain ⟨ih0, ih1⟩ := salvorlaw18_PlanRetries.mono_l k
    refine ⟨?_, ?_⟩
    · intro y0 y1 y2 y3 y4 y5 y6 y7 y8 y9 y10
      unfold salvorlaw18_PlanRetries.l0
      repeat' first
      | (with_reducible exact ih0 _ _ _ _ _ _ _ _ _ _ _)
      | (with_reducible exact ih1 _ _ _ _ _ _ _ _ _ _ _ _)
      | (with_reducible exact plan_After.mono _ _ _ _ _ _ _ _ _)
      | (with_reducible exact plan_Begin.mono _ _ _ _ _ _ _ _)
      | (with_reducible exact plan_Next.mono _ _ _ _ _ _ _ _)
      | (with_reducible exact region_Count.mono _ _ _)
      | (with_reducible exact region_Set.mono _ _ _ _ _)
      | (with_reducible exact salvorlaw18_PlanRuns.mono _)
      | (with_reducible exact LeO.refl _)
      | (with_reducible exact LeO.none _)
      | (with_reducible refine LeO.ite ?_ ?_)
      | (with_reducible refine LeO.bind ?_ (fun _ => ?_))
      | exact ih0 _ _ _ _ _ _ _ _ _ _ _
      | exact ih1 _ _ _ _ _ _ _ _ _ _ _ _
      | exact plan_After.mono _ _ _ _ _ _ _ _ _
      | exact plan_Begin.mono _ _ _ _ _ _ _ _
      | exact plan_Next.mono _ _ _ _ _ _ _ _
      | exact region_Count.mono _ _ _
      | exact region_Set.mono _ _ _ _ _
      | exact salvorlaw18_PlanRuns.mono _
      | exact LeO.none _
      | refine LeO.ite ?_ ?_
      | refine LeO.bind ?_ (fun _ => ?_)
    · intro y0 y1 y2 y3 y4 y5 y6 y7 y8 y9 y10 y11
      unfold salvorlaw18_PlanRetries.j1
      repeat' first
      | (with_reducible exact ih0 _ _ _ _ _ _ _ _ _ _ _)
      | (with_reducible exact ih1 _ _ _ _ _ _ _ _ _ _ _ _)
      | (with_reducible exact plan_After.mono _ _ _ _ _ _ _ _ _)
      | (with_reducible exact plan_Begin.mono _ _ _ _ _ _ _ _)
      | (with_reducible exact plan_Next.mono _ _ _ _ _ _ _ _)
      | (with_reducible exact region_Count.mono _ _ _)
      | (with_reducible exact region_Set.mono _ _ _ _ _)
      | (with_reducible exact salvorlaw18_PlanRuns.mono _)
      | (with_reducible exact LeO.refl _)
      | (with_reducible exact LeO.none _)
      | (with_reducible refine LeO.ite ?_ ?_)
      | (with_reducible refine LeO.bind ?_ (fun _ => ?_))
      | exact ih0 _ _ _ _ _ _ _ _ _ _ _
      | exact ih1 _ _ _ _ _ _ _ _ _ _ _ _
      | exact plan_After.mono _ _ _ _ _ _ _ _ _
      | exact plan_Begin.mono _ _ _ _ _ _ _ _
      | exact plan_Next.mono _ _ _ _ _ _ _ _
      | exact region_Count.mono _ _ _
      | exact region_Set.mono _ _ _ _ _
      | exact salvorlaw18_PlanRuns.mono _
      | exact LeO.none _
      | refine LeO.ite ?_ ?_
      | refine LeO.bind ?_ (fun _ => ?_)
theorem salvorlaw18_PlanRetries.mono : ∀ a0 a1 a2 k, LeO (salvorlaw18_PlanRetries.f k a0 a1 a2) (salvorlaw18_PlanRetries.f (k + 1) a0 a1 a2) := by
  intro a0 a1 a2 k
  obtain ⟨ih0, ih1⟩ := salvorlaw18_PlanRetries.mono_l k
  unfold salvorlaw18_PlanRetries.f
  repeat' first
      | (with_reducible exact ih0 _ _ _ _ _ _ _ _ _ _ _)
      | (with_reducible exact ih1 _ _ _ _ _ _ _ _ _ _ _ _)
      | (with_reducible exact plan_After.mono _ _ _ _ _ _ _ _ _)
      | (with_reducible exact plan_Begin.mono _ _ _ _ _ _ _ _)
      | (with_reducible exact plan_Next.mono _ _ _ _ _ _ _ _)
      | (with_reducible exact region_Count.mono _ _ _)
      | (with_reducible exact region_Set.mono _ _ _ _ _)
      | (with_reducible exact salvorlaw18_PlanRuns.mono _)
      | (with_reducible exact LeO.refl _)
      | (with_reducible exact LeO.none _)
      | (with_reducible refine LeO.ite ?_ ?_)
      | (with_reducible refine LeO.bind ?_ (fun _ => ?_))
      | exact ih0 _ _ _ _ _ _ _ _ _ _ _
      | exact ih1 _ _ _ _ _ _ _ _ _ _ _ _
      | exact plan_After.mono _ _ _ _ _ _ _ _ _
      | exact plan_Begin.mono _ _ _ _ _ _ _ _
      | exact plan_Next.mono _ _ _ _ _ _ _ _
      | exact region_Count.mono _ _ _
      | exact region_Set.mono _ _ _ _ _
      | exact salvorlaw18_PlanRuns.mono _
      | exact LeO.none _
      | refine LeO.ite ?_ ?_
      | refine LeO.bind ?_ (fun _ => ?_)
def salvorlaw18_PlanRetries.T3 : Bool × List (List Nat × List Nat) := (true, [([], []), ([], []), ([1], [1]), ([], []), ([2, 3, 2], [2, 3]), ([4], [4]), ([0, 5, 4], [0, 5]), ([], []), ([7, 6, 6, 0, 1, 2, 3, 4, 5, 6, 7], [6, 7])])
def salvorlaw18_PlanRetries.B3 : List Nat := [0, 0, 2, 0, 14, 30, 63, 0, 255]
theorem salvorlaw18_PlanRetries.tab3 : rtab .any (opsOf Try.f10 3) = salvorlaw18_PlanRetries.T3 := by kernel_rfl
theorem salvorlaw18_PlanRetries.bits3 : waitsOk salvorlaw18_PlanRetries.T3.2 salvorlaw18_PlanRetries.B3 = true := by kernel_rfl
set_option maxHeartbeats 8000000 in
set_option maxRecDepth 100000 in
theorem salvorlaw18_PlanRetries.calls (k : Nat) (a0 : Int) (a1 : Int) (a2 : Bool) (r : Bool) (w : World) (h : salvorlaw18_PlanRetries.f k a0 a1 a2 = some r) (hrt : r = true) :
    Calls Try.prog 10 #[.int .u8 a0, .int .u8 a1, .bool a2] w fun e w' => e = .returned (.bool r) ∧ Below w.heap.size w w' := by
  have HT := Aside0.mk hrt
  clear hrt
  have hu23 := Try.underlying23
  have hu26 := Try.underlying26
  have hu29 := Try.underlying29
  have HB := Aside0.mk (Below.refl w.heap.size w)
  have H : ((salvorlaw18_Opts.f 0 a1 a2).bind fun bt800 => ((region_New.f (wrap64 (a0))).bind fun t804 => ((region_Set.f k t804 0 (wrap64 (a0)) 45).bind fun t807 => ((plan_Begin.f k bt800.1 bt800.2.1 bt800.2.2 0 0 63 t807).bind fun bt810 => (salvorlaw18_PlanRetries.l0 k a2 (wrap64 (a0)) (wrap64 (Int.tdiv (wrap64 ((wrap64 ((wrap64 (a0)) + 8)) - 1)) 8)) 0 bt800.1 bt800.2.1 bt800.2.2 bt810.1 bt810.2.1 bt810.2.2.1 bt810.2.2.2))))) = some r := h
  clear h
  replace H := Option.bind_eq_some_iff.mp H
  obtain ⟨⟨t800, t801, t802⟩, A40, H⟩ := H
  replace H : ((region_New.f (wrap64 (a0))).bind fun t804 => ((region_Set.f k t804 0 (wrap64 (a0)) 45).bind fun t807 => ((plan_Begin.f k t800 t801 t802 0 0 63 t807).bind fun bt810 => (salvorlaw18_PlanRetries.l0 k a2 (wrap64 (a0)) (wrap64 (Int.tdiv (wrap64 ((wrap64 ((wrap64 (a0)) + 8)) - 1)) 8)) 0 t800 t801 t802 bt810.1 bt810.2.1 bt810.2.2.1 bt810.2.2.2)))) = some r := H
  have A4 := Aside0.mk A40
  clear A40
  replace H := Option.bind_eq_some_iff.mp H
  obtain ⟨t804, A50, H⟩ := H
  replace H : ((region_Set.f k t804 0 (wrap64 (a0)) 45).bind fun t807 => ((plan_Begin.f k t800 t801 t802 0 0 63 t807).bind fun bt810 => (salvorlaw18_PlanRetries.l0 k a2 (wrap64 (a0)) (wrap64 (Int.tdiv (wrap64 ((wrap64 ((wrap64 (a0)) + 8)) - 1)) 8)) 0 t800 t801 t802 bt810.1 bt810.2.1 bt810.2.2.1 bt810.2.2.2))) = some r := H
  have A5 := Aside0.mk A50
  clear A50
  replace H := Option.bind_eq_some_iff.mp H
  obtain ⟨t807, A60, H⟩ := H
  replace H : ((plan_Begin.f k t800 t801 t802 0 0 63 t807).bind fun bt810 => (salvorlaw18_PlanRetries.l0 k a2 (wrap64 (a0)) (wrap64 (Int.tdiv (wrap64 ((wrap64 ((wrap64 (a0)) + 8)) - 1)) 8)) 0 t800 t801 t802 bt810.1 bt810.2.1 bt810.2.2.1 bt810.2.2.2)) = some r := H
  have A6 := Aside0.mk A60
  clear A60
  replace H := Option.bind_eq_some_iff.mp H
  obtain ⟨⟨t810, t811, t812, t813⟩, A70, H⟩ := H
  replace H : (salvorlaw18_PlanRetries.l0 k a2 (wrap64 (a0)) (wrap64 (Int.tdiv (wrap64 ((wrap64 ((wrap64 (a0)) + 8)) - 1)) 8)) 0 t800 t801 t802 t810 t811 t812 t813) = some r := H
  have A7 := Aside0.mk A70
  clear A70
  have H' := Aside0.mk H
  clear H
  go_enter Try.func10, Try.ntmps10
  try go_wp2_with (first | ((with_reducible refine gate_callee (f := 22) rfl ?_); refine gl_ (some 18) rfl rfl Try.func22 (by kernel_rfl) rfl #[.int .u8 0, .int .u8 a1, .bool a2] rfl ?_; (with_reducible refine (salvorlaw18_Opts.calls 0 a1 a2 t800 t801 t802 _ A4.out).mono ?_); rintro e w8 ⟨rfl, hb⟩; refine ⟨_, rfl, ?_⟩; replace HB := bs_ HB hb; (try clear hb); (try clear hb2); (try clear hk); (try clear hi)) | ((with_reducible refine gate_dst (N := 8) rfl ?_); (try (refine gate_guard (by rfl) ?_; dsimp only)); refine box_e 8 #[.int .i64 0, .int .i64 0, .bool false] 23 ?_; intro gb803 hg w9 hbox hb; have BK803 := Aside0.mk hbox; have GW803 := bg_ HB hg; have GE803 := bg_ HB hg; replace HB := bs_ HB hb; clear hb hbox hg; have hcz10_0 : w9.cell? ⟨gb803, 0, none⟩ = some (.int .i64 0) := (blk_cell BK803.out 0).trans rfl; have hcz10_1 : w9.cell? ⟨gb803, 1, none⟩ = some (.int .i64 0) := (blk_cell BK803.out 1).trans rfl; have hcz10_2 : w9.cell? ⟨gb803, 2, none⟩ = some (.bool false) := (blk_cell BK803.out 2).trans rfl; have hfz10_0 := blk_frozen BK803.out 0; have hfz10_1 := blk_frozen BK803.out 1; have hfz10_2 := blk_frozen BK803.out 2))
  have n0_ : Aside0 ((((w9.setCell ⟨gb803, 0, none⟩ (.int .i64 t800)).setCell ⟨gb803, 1, none⟩ (.int .i64 t801)).setCell ⟨gb803, 2, none⟩ (.bool t802)).heap[gb803]? = some (.cells #[.int .i64 t800, .int .i64 t801, .bool t802] 23 (0, 0))) := ⟨by (with_reducible repeat (first | refine blk_drewN ?_ _ | refine blk_drew ?_ | refine blk_alloc ?_ _)); refine blk_put (cs := #[.int .i64 t800, .int .i64 t801, .bool false]) ?_ 2 _ rfl; (with_reducible repeat (first | refine blk_drewN ?_ _ | refine blk_drew ?_ | refine blk_alloc ?_ _)); refine blk_put (cs := #[.int .i64 t800, .int .i64 0, .bool false]) ?_ 1 _ rfl; (with_reducible repeat (first | refine blk_drewN ?_ _ | refine blk_drew ?_ | refine blk_alloc ?_ _)); refine blk_put (cs := #[.int .i64 0, .int .i64 0, .bool false]) ?_ 0 _ rfl; (with_reducible repeat (first | refine blk_drewN ?_ _ | refine blk_drew ?_ | refine blk_alloc ?_ _)); exact BK803.out⟩
  have n1_ : Aside0 (Below w.heap.size w (((w9.setCell ⟨gb803, 0, none⟩ (.int .i64 t800)).setCell ⟨gb803, 1, none⟩ (.int .i64 t801)).setCell ⟨gb803, 2, none⟩ (.bool t802))) := ⟨by repeat (first | (with_reducible first | exact HB.out | apply below_alloc | apply pw_below_drewN | apply below_drew1 | refine below_set ?_ GE803.out) | exact HB.out)⟩
  (try clear BK803)
  (try clear HB)
  generalize (((w9.setCell ⟨gb803, 0, none⟩ (.int .i64 t800)).setCell ⟨gb803, 1, none⟩ (.int .i64 t801)).setCell ⟨gb803, 2, none⟩ (.bool t802)) = w11 at n0_ n1_ ⊢
  have BK803 := n0_
  have HB := n1_
  clear n0_ n1_
  replace BK803 := Aside0.mk (blk_drew BK803.out)
  replace HB := Aside0.mk (below_drew1 HB.out)
  refine start_ (n := 9) (S := fun w' => w'.cell? ⟨gb803, 0, none⟩ = some (.int .i64 t800) ∧ w'.cell? ⟨gb803, 1, none⟩ = some (.int .i64 t801) ∧ w'.cell? ⟨gb803, 2, none⟩ = some (.bool t802)) (ds := []) #[false, false, false, false, false, false, false, false, false] (by kernel_rfl) rfl rfl ⟨(blk_cell BK803.out 0).trans rfl, (blk_cell BK803.out 1).trans rfl, (blk_cell BK803.out 2).trans rfl⟩ (fun hHeld => ?_); refine with_tabW salvorlaw18_PlanRetries.tab3 salvorlaw18_PlanRetries.bits3 (fun HT_ HW_ => ?_)
  generalize w11.drew = w12 at BK803 HB hHeld ⊢
  refine pu_ 1 20 (lb_ 9 2) rfl rfl (any_of HT_.out (by kernel_rfl)) ?_
  refine pu_ 3 22 (lb_ 9 10) rfl rfl (any_of HT_.out (by kernel_rfl)) ?_
  refine take_ (i := 0) (N := some 19) (v := ?_) (a' := ?_) #[true, true, false, true, false, false, false, false, false] rfl rfl (take_ofW HT_.out HW_.out (by kernel_rfl)) (fun _ _ _ h => h) (Or.inl ⟨by rfl, ?_⟩) hHeld ?_ ?_
  rotate_left
  · rintro w' ⟨s0, s1, s2⟩
    go_simp
    with_reducible rfl
  rotate_left
  · simp only [Act.put, List.setIfInBounds_toArray, List.set_cons_zero, List.set_cons_succ, i64_w, i32_w]
    rfl
  refine join_ (σ := Value × Value × Value × Nat) 1 #[true, true, true, true, true, true, true, true, false] (fun s_ => [(21, s_.1), (23, s_.2.1), (25, .agg #[.int .i64 t810, .int .i64 t811, .int .u8 t812, s_.2.2.1]), (9, .pointer (some ⟨s_.2.2.2, 0, none⟩)), (24, .agg #[.int .i64 0, .int .i64 0, .int .u8 63, s_.2.1])]) (fun s_ w' => (w'.cell? ⟨gb803, 0, none⟩ = some (.int .i64 t800) ∧ w'.cell? ⟨gb803, 1, none⟩ = some (.int .i64 t801) ∧ w'.cell? ⟨gb803, 2, none⟩ = some (.bool t802)) ∧ (Kd.R k33 33 w' w.heap.size (fun k_ => some k_ ≠ (s_.2.1 : Value).ownBlock ∧ some k_ ≠ (s_.2.2.1 : Value).ownBlock) s_.1 t804) ∧ (Kd.R k33 33 w' w.heap.size (fun k_ => some k_ ≠ (s_.1 : Value).ownBlock ∧ some k_ ≠ (s_.2.2.1 : Value).ownBlock) s_.2.1 t807) ∧ (Kd.R k33 33 w' w.heap.size (fun k_ => some k_ ≠ (s_.1 : Value).ownBlock ∧ some k_ ≠ (s_.2.1 : Value).ownBlock) s_.2.2.1 t813) ∧ (w'.heap[gb803]? = some (.cells #[.int .i64 t800, .int .i64 t801, .bool t802] 23 (0, 0))) ∧ (w'.heap[s_.2.2.2]? = some (.cells #[.int .i64 0, .int .i64 0, .int .u8 0, .slice none 0 0] 26 (0, 0))) ∧ (w.heap.size ≤ s_.2.2.2) ∧ (w.heap.size ≤ s_.2.2.2) ∧ (gb803 ≠ s_.2.2.2) ∧ (s_.2.2.2 ≠ gb803) ∧ (Below w.heap.size w w')) ?_ ?_
  rotate_left
  · intro hCont
    refine two_ (i := 2) (j := 7) (Ni := some 21) (Nj := some 9) #[true, true, true, true, false, false, false, false, false] #[true, true, false, true, false, false, false, true, false] rfl rfl rfl rfl (two_of HT_.out (by kernel_rfl)) (by decide) (by decide) (fun K hK => ?_) (fun K hK => ?_)
    · skip
      refine gq_ Try.func34 (by kernel_rfl) rfl #[.int .i64 (wrap64 (a0))] (by rfl) rfl rfl ?_
      with_reducible refine (region_New.calls (wrap64 (a0)) t804 _ A5.out).mono ?_
      rintro e w13 ⟨v805, rfl, ho0, hb⟩
      refine ⟨_, rfl, ?_⟩
      have HO806 := Aside0.mk (Kd.R_lower ho0 (below_size (bh_ HB)))
      replace BK803 := bb_ BK803 hb
      replace HB := bs_ HB hb
      (try clear hb)
      (try clear hb2)
      (try clear hk)
      (try clear hi)
      (try clear ho0)
      obtain ⟨Ao14, co14, eo14⟩ := Kd.R_slice HO806.out
      (first | subst eo14 | (injection eo14 with f1_ f2_ f3_; have f4_ := f1_.symm; have f5_ := f3_.symm; clear f1_ f2_ f3_; subst f4_; subst f5_))
      refine hK.out _ _ ⟨(blk_cell BK803.out 0).trans rfl, (blk_cell BK803.out 1).trans rfl, (blk_cell BK803.out 2).trans rfl⟩ (fun hHeld => ?_)
      clear hK K
      refine norm_ (a' := ?_) ?_ ?_
      rotate_left
      · show Act.put _ (some 21) _ = _
        simp only [Act.put, List.setIfInBounds_toArray, List.set_cons_zero, List.set_cons_succ, i64_w, i32_w]
        rfl
      refine two_ (i := 4) (j := 7) (Ni := some 23) (Nj := some 9) #[true, true, true, true, true, false, false, false, false] #[true, true, true, true, false, false, false, true, false] rfl rfl rfl rfl (two_of HT_.out (by kernel_rfl)) (by decide) (by decide) (fun K hK => ?_) (fun K hK => ?_)
      · skip
        refine gq_ Try.func33 (by kernel_rfl) rfl #[.slice Ao14 t804.length co14, .int .i64 0, .int .i64 (wrap64 (a0)), .int .u8 45] (by rfl) rfl rfl ?_
        with_reducible refine (region_Set.calls k _ _ t804 0 (wrap64 (a0)) 45 t807 _ ?side1 ?side2 A6.out).mono ?_
        (case side1 => repeat (first | exact (Kd.R_reads' HO806.out).2.2 | (with_reducible refine Kd.C_alloc ?_ _) | (with_reducible refine Kd.C_drewN ?_ _) | (with_reducible refine Kd.C_drew ?_)))
        (case side2 => exact (Kd.R_reads' HO806.out).2.1)
        rintro e w15 ⟨v808, rfl, ho0, hb⟩
        refine ⟨_, rfl, ?_⟩
        have n0_ := Aside0.mk (Kd.R_elder' (by (with_reducible repeat (first | apply Kd.R_alloc | apply Kd.R_drewN | apply Kd.R_drew)); exact HO806.out) (Kd.R_base ho0) hb)
        have n1_ := Aside0.mk (Kd.R_lower (Kd.R_new' ho0 (Kd.R_lt (by (with_reducible repeat (first | apply Kd.R_alloc | apply Kd.R_drewN | apply Kd.R_drew)); exact HO806.out))) (below_size (bh_ HB)))
        have n2_ := bb_ BK803 hb
        have n3_ := bs_ HB hb
        clear HO806
        clear BK803
        clear HB
        have HO806 := n0_
        have HO809 := n1_
        have BK803 := n2_
        have HB := n3_
        clear n0_ n1_ n2_ n3_
        (try clear hb)
        (try clear hb2)
        (try clear hk)
        (try clear hi)
        (try clear ho0)
        obtain ⟨Ao16, co16, eo16⟩ := Kd.R_slice HO809.out
        (first | subst eo16 | (injection eo16 with f1_ f2_ f3_; have f4_ := f1_.symm; have f5_ := f3_.symm; clear f1_ f2_ f3_; subst f4_; subst f5_))
        refine hK.out _ _ ⟨(blk_cell BK803.out 0).trans rfl, (blk_cell BK803.out 1).trans rfl, (blk_cell BK803.out 2).trans rfl⟩ (fun hHeld => ?_)
        clear hK K
        refine norm_ (a' := ?_) ?_ ?_
        rotate_left
        · show Act.put _ (some 23) _ = _
          simp only [Act.put, List.setIfInBounds_toArray, List.set_cons_zero, List.set_cons_succ, i64_w, i32_w]
          rfl
        refine pu_ 5 24 (lb_ 9 63) rfl rfl (any_of HT_.out (by kernel_rfl)) ?_
        refine two_ (i := 6) (j := 7) (Ni := some 25) (Nj := some 9) #[true, true, true, true, true, true, true, false, false] #[true, true, true, true, true, true, false, true, false] rfl rfl rfl rfl (two_of HT_.out (by kernel_rfl)) (by decide) (by decide) (fun K hK => ?_) (fun K hK => ?_)
        · skip
          refine gq_ Try.func28 (by kernel_rfl) rfl #[.agg #[.int .i64 t800, .int .i64 t801, .bool t802], .agg #[.int .i64 0, .int .i64 0, .int .u8 63, .slice Ao16 t807.length co16]] (by rfl) rfl rfl ?_
          with_reducible refine (plan_Begin.calls k t800 t801 t802 0 0 63 _ _ t807 t810 t811 t812 t813 _ ?side1 ?side2 A7.out).mono ?_
          (case side1 => repeat (first | exact (Kd.R_reads' HO809.out).2.2 | (with_reducible refine Kd.C_alloc ?_ _) | (with_reducible refine Kd.C_drewN ?_ _) | (with_reducible refine Kd.C_drew ?_)))
          (case side2 => exact (Kd.R_reads' HO809.out).2.1)
          rintro e w17 ⟨v814, rfl, ho0, hb⟩
          refine ⟨_, rfl, ?_⟩
          have n0_ := Aside0.mk (Kd.R_elder' (by (with_reducible repeat (first | apply Kd.R_alloc | apply Kd.R_drewN | apply Kd.R_drew)); exact HO806.out) (Kd.R_base ho0) hb)
          have n1_ := Aside0.mk (Kd.R_elder' (by (with_reducible repeat (first | apply Kd.R_alloc | apply Kd.R_drewN | apply Kd.R_drew)); exact HO809.out) (Kd.R_base ho0) hb)
          have n2_ := Aside0.mk (Kd.R_lower (Kd.R_new' (Kd.R_new' ho0 (Kd.R_lt (by (with_reducible repeat (first | apply Kd.R_alloc | apply Kd.R_drewN | apply Kd.R_drew)); exact HO806.out))) (Kd.R_lt (by (with_reducible repeat (first | apply Kd.R_alloc | apply Kd.R_drewN | apply Kd.R_drew)); exact HO809.out))) (below_size (bh_ HB)))
          have n3_ := bb_ BK803 hb
          have n4_ := bs_ HB hb
          clear HO806
          clear HO809
          clear BK803
          clear HB
          have HO806 := n0_
          have HO809 := n1_
          have HO815 := n2_
          have BK803 := n3_
          have HB := n4_
          clear n0_ n1_ n2_ n3_ n4_
          (try clear hb)
          (try clear hb2)
          (try clear hk)
          (try clear hi)
          (try clear ho0)
          refine hK.out _ _ ⟨(blk_cell BK803.out 0).trans rfl, (blk_cell BK803.out 1).trans rfl, (blk_cell BK803.out 2).trans rfl⟩ (fun hHeld => ?_)
          clear hK K
          refine norm_ (a' := ?_) ?_ ?_
          rotate_left
          · show Act.put _ (some 25) _ = _
            simp only [Act.put, List.setIfInBounds_toArray, List.set_cons_zero, List.set_cons_succ, i64_w, i32_w]
            rfl
          refine one_ (i := 7) (N := some 9) #[true, true, true, true, true, true, true, true, false] rfl rfl (one_of HT_.out (by kernel_rfl)) (by decide) (fun K hK => ?_)
          refine box_step ?hg (N := 9) ?hd (cs := #[.int .i64 0, .int .i64 0, .int .u8 0, .slice none 0 0]) (t := 26) ?hr ?_; (case hd => rfl); (case hg => rfl); (case hr => first | (go_simp; done) | (go_simp; rfl))
          intro gb816 hg w18 hbox hb
          have n0_ := Aside0.mk (Kd.R_below (by (with_reducible repeat (first | apply Kd.R_alloc | apply Kd.R_drewN | apply Kd.R_drew)); exact HO806.out) hb)
          have n1_ := Aside0.mk (Kd.R_below (by (with_reducible repeat (first | apply Kd.R_alloc | apply Kd.R_drewN | apply Kd.R_drew)); exact HO809.out) hb)
          have n2_ := Aside0.mk (Kd.R_below (by (with_reducible repeat (first | apply Kd.R_alloc | apply Kd.R_drewN | apply Kd.R_drew)); exact HO815.out) hb)
          have n3_ := bb_ BK803 hb
          have n4_ := bs_ HB hb
          have n5_ := Aside0.mk hbox
          have n6_ := bg_ HB hg
          have n7_ := bg_ HB hg
          have n8_ := bn_ BK803 hg
          have n9_ := bm_ BK803 hg
          clear HO806
          clear HO809
          clear HO815
          clear BK803
          clear HB
          have HO806 := n0_
          have HO809 := n1_
          have HO815 := n2_
          have BK803 := n3_
          have HB := n4_
          have BK816 := n5_
          have GW816 := n6_
          have GE816 := n7_
          have NB803_816 := n8_
          have NB816_803 := n9_
          clear n0_ n1_ n2_ n3_ n4_ n5_ n6_ n7_ n8_ n9_
          clear hb hbox hg
          refine hK.out _ _ ⟨(blk_cell BK803.out 0).trans rfl, (blk_cell BK803.out 1).trans rfl, (blk_cell BK803.out 2).trans rfl⟩ (fun hHeld => ?_)
          clear hK K
          refine norm_ (a' := ?_) ?_ ?_
          rotate_left
          · show Act.put _ (some 9) _ = _
            simp only [Act.put, List.setIfInBounds_toArray, List.set_cons_zero, List.set_cons_succ, i64_w, i32_w]
            rfl
          exact norm_ (by simp only [putAll, Act.put, List.setIfInBounds_toArray, List.set_cons_zero, List.set_cons_succ]) (hCont (.slice Ao14 t804.length co14, .slice Ao16 t807.length co16, v814, gb816) _ ⟨hHeld, (by (with_reducible repeat (first | apply Kd.R_alloc | apply Kd.R_drewN | apply Kd.R_drew)); exact Kd.R_mono HO806.out (fun _ hk => ⟨hk.1.2, hk.2⟩)), (by (with_reducible repeat (first | apply Kd.R_alloc | apply Kd.R_drewN | apply Kd.R_drew)); exact Kd.R_mono HO809.out (fun _ hk => ⟨hk.1.2, hk.2⟩)), (by (with_reducible repeat (first | apply Kd.R_alloc | apply Kd.R_drewN | apply Kd.R_drew)); exact Kd.R_mono HO815.out (fun _ hk => ⟨hk.1.2, hk.2⟩)), (bq_ BK803), (bq_ BK816), GW816.out, GE816.out, NB803_816.out, NB816_803.out, (bh_ HB)⟩)
        · skip
          refine box_step ?hg (N := 9) ?hd (cs := #[.int .i64 0, .int .i64 0, .int .u8 0, .slice none 0 0]) (t := 26) ?hr ?_; (case hd => rfl); (case hg => rfl); (case hr => first | (go_simp; done) | (go_simp; rfl))
          intro gb816 hg w17 hbox hb
          have n0_ := Aside0.mk (Kd.R_below (by (with_reducible repeat (first | apply Kd.R_alloc | apply Kd.R_drewN | apply Kd.R_drew)); exact HO806.out) hb)
          have n1_ := Aside0.mk (Kd.R_below (by (with_reducible repeat (first | apply Kd.R_alloc | apply Kd.R_drewN | apply Kd.R_drew)); exact HO809.out) hb)
          have n2_ := bb_ BK803 hb
          have n3_ := bs_ HB hb
          have n4_ := Aside0.mk hbox
          have n5_ := bg_ HB hg
          have n6_ := bg_ HB hg
          have n7_ := bn_ BK803 hg
          have n8_ := bm_ BK803 hg
          clear HO806
          clear HO809
          clear BK803
          clear HB
          have HO806 := n0_
          have HO809 := n1_
          have BK803 := n2_
          have HB := n3_
          have BK816 := n4_
          have GW816 := n5_
          have GE816 := n6_
          have NB803_816 := n7_
          have NB816_803 := n8_
          clear n0_ n1_ n2_ n3_ n4_ n5_ n6_ n7_ n8_
          clear hb hbox hg
          refine hK.out _ _ ⟨(blk_cell BK803.out 0).trans rfl, (blk_cell BK803.out 1).trans rfl, (blk_cell BK803.out 2).trans rfl⟩ (fun hHeld => ?_)
          clear hK K
          refine norm_ (a' := ?_) ?_ ?_
          rotate_left
          · show Act.put _ (some 9) _ = _
            simp only [Act.put, List.setIfInBounds_toArray, List.set_cons_zero, List.set_cons_succ, i64_w, i32_w]
            rfl
          refine one_ (i := 6) (N := some 25) #[true, true, true, true, true, true, true, true, false] rfl rfl (one_of HT_.out (by kernel_rfl)) (by decide) (fun K hK => ?_)
          refine gq_ Try.func28 (by kernel_rfl) rfl #[.agg #[.int .i64 t800, .int .i64 t801, .bool t802], .agg #[.int .i64 0, .int .i64 0, .int .u8 63, .slice Ao16 t807.length co16]] (by rfl) rfl rfl ?_
          with_reducible refine (plan_Begin.calls k t800 t801 t802 0 0 63 _ _ t807 t810 t811 t812 t813 _ ?side1 ?side2 A7.out).mono ?_
          (case side1 => repeat (first | exact (Kd.R_reads' HO809.out).2.2 | (with_reducible refine Kd.C_alloc ?_ _) | (with_reducible refine Kd.C_drewN ?_ _) | (with_reducible refine Kd.C_drew ?_)))
          (case side2 => exact (Kd.R_reads' HO809.out).2.1)
          rintro e w18 ⟨v814, rfl, ho0, hb⟩
          refine ⟨_, rfl, ?_⟩
          have n0_ := Aside0.mk (Kd.R_elder' (by (with_reducible repeat (first | apply Kd.R_alloc | apply Kd.R_drewN | apply Kd.R_drew)); exact HO806.out) (Kd.R_base ho0) hb)
          have n1_ := Aside0.mk (Kd.R_elder' (by (with_reducible repeat (first | apply Kd.R_alloc | apply Kd.R_drewN | apply Kd.R_drew)); exact HO809.out) (Kd.R_base ho0) hb)
          have n2_ := Aside0.mk (Kd.R_lower (Kd.R_new' (Kd.R_new' ho0 (Kd.R_lt (by (with_reducible repeat (first | apply Kd.R_alloc | apply Kd.R_drewN | apply Kd.R_drew)); exact HO806.out))) (Kd.R_lt (by (with_reducible repeat (first | apply Kd.R_alloc | apply Kd.R_drewN | apply Kd.R_drew)); exact HO809.out))) (below_size (bh_ HB)))
          have n3_ := bb_ BK803 hb
          have n4_ := bb_ BK816 hb
          have n5_ := bs_ HB hb
          clear HO806
          clear HO809
          clear BK803
          clear BK816
          clear HB
          have HO806 := n0_
          have HO809 := n1_
          have HO815 := n2_
          have BK803 := n3_
          have BK816 := n4_
          have HB := n5_
          clear n0_ n1_ n2_ n3_ n4_ n5_
          (try clear hb)
          (try clear hb2)
          (try clear hk)
          (try clear hi)
          (try clear ho0)
          refine hK.out _ _ ⟨(blk_cell BK803.out 0).trans rfl, (blk_cell BK803.out 1).trans rfl, (blk_cell BK803.out 2).trans rfl⟩ (fun hHeld => ?_)
          clear hK K
          refine norm_ (a' := ?_) ?_ ?_
          rotate_left
          · show Act.put _ (some 25) _ = _
            simp only [Act.put, List.setIfInBounds_toArray, List.set_cons_zero, List.set_cons_succ, i64_w, i32_w]
            rfl
          exact norm_ (by simp only [putAll, Act.put, List.setIfInBounds_toArray, List.set_cons_zero, List.set_cons_succ]) (hCont (.slice Ao14 t804.length co14, .slice Ao16 t807.length co16, v814, gb816) _ ⟨hHeld, (by (with_reducible repeat (first | apply Kd.R_alloc | apply Kd.R_drewN | apply Kd.R_drew)); exact Kd.R_mono HO806.out (fun _ hk => ⟨hk.1.2, hk.2⟩)), (by (with_reducible repeat (first | apply Kd.R_alloc | apply Kd.R_drewN | apply Kd.R_drew)); exact Kd.R_mono HO809.out (fun _ hk => ⟨hk.1.2, hk.2⟩)), (by (with_reducible repeat (first | apply Kd.R_alloc | apply Kd.R_drewN | apply Kd.R_drew)); exact Kd.R_mono HO815.out (fun _ hk => ⟨hk.1.2, hk.2⟩)), (bq_ BK803), (bq_ BK816), GW816.out, GE816.out, NB803_816.out, NB816_803.out, (bh_ HB)⟩)
      · skip
        refine box_step ?hg (N := 9) ?hd (cs := #[.int .i64 0, .int .i64 0, .int .u8 0, .slice none 0 0]) (t := 26) ?hr ?_; (case hd => rfl); (case hg => rfl); (case hr => first | (go_simp; done) | (go_simp; rfl))
        intro gb816 hg w14 hbox hb
        have n0_ := Aside0.mk (Kd.R_below (by (with_reducible repeat (first | apply Kd.R_alloc | apply Kd.R_drewN | apply Kd.R_drew)); exact HO806.out) hb)
        have n1_ := bb_ BK803 hb
        have n2_ := bs_ HB hb
        have n3_ := Aside0.mk hbox
        have n4_ := bg_ HB hg
        have n5_ := bg_ HB hg
        have n6_ := bn_ BK803 hg
        have n7_ := bm_ BK803 hg
        clear HO806
        clear BK803
        clear HB
        have HO806 := n0_
        have BK803 := n1_
        have HB := n2_
        have BK816 := n3_
        have GW816 := n4_
        have GE816 := n5_
        have NB803_816 := n6_
        have NB816_803 := n7_
        clear n0_ n1_ n2_ n3_ n4_ n5_ n6_ n7_
        clear hb hbox hg
        obtain ⟨Ao15, co15, eo15⟩ := Kd.R_slice HO806.out
        (first | subst eo15 | (injection eo15 with f1_ f2_ f3_; have f4_ := f1_.symm; have f5_ := f3_.symm; clear f1_ f2_ f3_; subst f4_; subst f5_))
        refine hK.out _ _ ⟨(blk_cell BK803.out 0).trans rfl, (blk_cell BK803.out 1).trans rfl, (blk_cell BK803.out 2).trans rfl⟩ (fun hHeld => ?_)
        clear hK K
        refine norm_ (a' := ?_) ?_ ?_
        rotate_left
        · show Act.put _ (some 9) _ = _
          simp only [Act.put, List.setIfInBounds_toArray, List.set_cons_zero, List.set_cons_succ, i64_w, i32_w]
          rfl
        refine one_ (i := 4) (N := some 23) #[true, true, true, true, true, false, false, true, false] rfl rfl (one_of HT_.out (by kernel_rfl)) (by decide) (fun K hK => ?_)
        refine gq_ Try.func33 (by kernel_rfl) rfl #[.slice Ao15 t804.length co15, .int .i64 0, .int .i64 (wrap64 (a0)), .int .u8 45] (by rfl) rfl rfl ?_
        with_reducible refine (region_Set.calls k _ _ t804 0 (wrap64 (a0)) 45 t807 _ ?side1 ?side2 A6.out).mono ?_
        (case side1 => repeat (first | exact (Kd.R_reads' HO806.out).2.2 | (with_reducible refine Kd.C_alloc ?_ _) | (with_reducible refine Kd.C_drewN ?_ _) | (with_reducible refine Kd.C_drew ?_)))
        (case side2 => exact (Kd.R_reads' HO806.out).2.1)
        rintro e w16 ⟨v808, rfl, ho0, hb⟩
        refine ⟨_, rfl, ?_⟩
        have n0_ := Aside0.mk (Kd.R_elder' (by (with_reducible repeat (first | apply Kd.R_alloc | apply Kd.R_drewN | apply Kd.R_drew)); exact HO806.out) (Kd.R_base ho0) hb)
        have n1_ := Aside0.mk (Kd.R_lower (Kd.R_new' ho0 (Kd.R_lt (by (with_reducible repeat (first | apply Kd.R_alloc | apply Kd.R_drewN | apply Kd.R_drew)); exact HO806.out))) (below_size (bh_ HB)))
        have n2_ := bb_ BK803 hb
        have n3_ := bb_ BK816 hb
        have n4_ := bs_ HB hb
        clear HO806
        clear BK803
        clear BK816
        clear HB
        have HO806 := n0_
        have HO809 := n1_
        have BK803 := n2_
        have BK816 := n3_
        have HB := n4_
        clear n0_ n1_ n2_ n3_ n4_
        (try clear hb)
        (try clear hb2)
        (try clear hk)
        (try clear hi)
        (try clear ho0)
        obtain ⟨Ao17, co17, eo17⟩ := Kd.R_slice HO809.out
        (first | subst eo17 | (injection eo17 with f1_ f2_ f3_; have f4_ := f1_.symm; have f5_ := f3_.symm; clear f1_ f2_ f3_; subst f4_; subst f5_))
        refine hK.out _ _ ⟨(blk_cell BK803.out 0).trans rfl, (blk_cell BK803.out 1).trans rfl, (blk_cell BK803.out 2).trans rfl⟩ (fun hHeld => ?_)
        clear hK K
        refine norm_ (a' := ?_) ?_ ?_
        rotate_left
        · show Act.put _ (some 23) _ = _
          simp only [Act.put, List.setIfInBounds_toArray, List.set_cons_zero, List.set_cons_succ, i64_w, i32_w]
          rfl
        refine pu_ 5 24 (lb_ 9 191) rfl rfl (any_of HT_.out (by kernel_rfl)) ?_
        refine one_ (i := 6) (N := some 25) #[true, true, true, true, true, true, true, true, false] rfl rfl (one_of HT_.out (by kernel_rfl)) (by decide) (fun K hK => ?_)
        refine gq_ Try.func28 (by kernel_rfl) rfl #[.agg #[.int .i64 t800, .int .i64 t801, .bool t802], .agg #[.int .i64 0, .int .i64 0, .int .u8 63, .slice Ao17 t807.length co17]] (by rfl) rfl rfl ?_
        with_reducible refine (plan_Begin.calls k t800 t801 t802 0 0 63 _ _ t807 t810 t811 t812 t813 _ ?side1 ?side2 A7.out).mono ?_
        (case side1 => repeat (first | exact (Kd.R_reads' HO809.out).2.2 | (with_reducible refine Kd.C_alloc ?_ _) | (with_reducible refine Kd.C_drewN ?_ _) | (with_reducible refine Kd.C_drew ?_)))
        (case side2 => exact (Kd.R_reads' HO809.out).2.1)
        rintro e w18 ⟨v814, rfl, ho0, hb⟩
        refine ⟨_, rfl, ?_⟩
        have n0_ := Aside0.mk (Kd.R_elder' (by (with_reducible repeat (first | apply Kd.R_alloc | apply Kd.R_drewN | apply Kd.R_drew)); exact HO806.out) (Kd.R_base ho0) hb)
        have n1_ := Aside0.mk (Kd.R_elder' (by (with_reducible repeat (first | apply Kd.R_alloc | apply Kd.R_drewN | apply Kd.R_drew)); exact HO809.out) (Kd.R_base ho0) hb)
        have n2_ := Aside0.mk (Kd.R_lower (Kd.R_new' (Kd.R_new' ho0 (Kd.R_lt (by (with_reducible repeat (first | apply Kd.R_alloc | apply Kd.R_drewN | apply Kd.R_drew)); exact HO806.out))) (Kd.R_lt (by (with_reducible repeat (first | apply Kd.R_alloc | apply Kd.R_drewN | apply Kd.R_drew)); exact HO809.out))) (below_size (bh_ HB)))
        have n3_ := bb_ BK803 hb
        have n4_ := bb_ BK816 hb
        have n5_ := bs_ HB hb
        clear HO806
        clear HO809
        clear BK803
        clear BK816
        clear HB
        have HO806 := n0_
        have HO809 := n1_
        have HO815 := n2_
        have BK803 := n3_
        have BK816 := n4_
        have HB := n5_
        clear n0_ n1_ n2_ n3_ n4_ n5_
        (try clear hb)
        (try clear hb2)
        (try clear hk)
        (try clear hi)
        (try clear ho0)
        refine hK.out _ _ ⟨(blk_cell BK803.out 0).trans rfl, (blk_cell BK803.out 1).trans rfl, (blk_cell BK803.out 2).trans rfl⟩ (fun hHeld => ?_)
        clear hK K
        refine norm_ (a' := ?_) ?_ ?_
        rotate_left
        · show Act.put _ (some 25) _ = _
          simp only [Act.put, List.setIfInBounds_toArray, List.set_cons_zero, List.set_cons_succ, i64_w, i32_w]
          rfl
        exact norm_ (by simp only [putAll, Act.put, List.setIfInBounds_toArray, List.set_cons_zero, List.set_cons_succ]) (hCont (.slice Ao15 t804.length co15, .slice Ao17 t807.length co17, v814, gb816) _ ⟨hHeld, (by (with_reducible repeat (first | apply Kd.R_alloc | apply Kd.R_drewN | apply Kd.R_drew)); exact Kd.R_mono HO806.out (fun _ hk => ⟨hk.1.2, hk.2⟩)), (by (with_reducible repeat (first | apply Kd.R_alloc | apply Kd.R_drewN | apply Kd.R_drew)); exact Kd.R_mono HO809.out (fun _ hk => ⟨hk.1.2, hk.2⟩)), (by (with_reducible repeat (first | apply Kd.R_alloc | apply Kd.R_drewN | apply Kd.R_drew)); exact Kd.R_mono HO815.out (fun _ hk => ⟨hk.1.2, hk.2⟩)), (bq_ BK803), (bq_ BK816), GW816.out, GE816.out, NB803_816.out, NB816_803.out, (bh_ HB)⟩)
    · skip
      refine box_step ?hg (N := 9) ?hd (cs := #[.int .i64 0, .int .i64 0, .int .u8 0, .slice none 0 0]) (t := 26) ?hr ?_; (case hd => rfl); (case hg => rfl); (case hr => first | (go_simp; done) | (go_simp; rfl))
      intro gb816 hg w13 hbox hb
      have BK816 := Aside0.mk hbox
      have GW816 := bg_ HB hg
      have GE816 := bg_ HB hg
      have NB803_816 := bn_ BK803 hg
      have NB816_803 := bm_ BK803 hg
      replace BK803 := bb_ BK803 hb
      replace HB := bs_ HB hb
      clear hb hbox hg
      refine hK.out _ _ ⟨(blk_cell BK803.out 0).trans rfl, (blk_cell BK803.out 1).trans rfl, (blk_cell BK803.out 2).trans rfl⟩ (fun hHeld => ?_)
      clear hK K
      refine norm_ (a' := ?_) ?_ ?_
      rotate_left
      · show Act.put _ (some 9) _ = _
        simp only [Act.put, List.setIfInBounds_toArray, List.set_cons_zero, List.set_cons_succ, i64_w, i32_w]
        rfl
      refine one_ (i := 2) (N := some 21) #[true, true, true, true, false, false, false, true, false] rfl rfl (one_of HT_.out (by kernel_rfl)) (by decide) (fun K hK => ?_)
      refine gq_ Try.func34 (by kernel_rfl) rfl #[.int .i64 (wrap64 (a0))] (by rfl) rfl rfl ?_
      with_reducible refine (region_New.calls (wrap64 (a0)) t804 _ A5.out).mono ?_
      rintro e w14 ⟨v805, rfl, ho0, hb⟩
      refine ⟨_, rfl, ?_⟩
      have HO806 := Aside0.mk (Kd.R_lower ho0 (below_size (bh_ HB)))
      replace BK803 := bb_ BK803 hb
      replace BK816 := bb_ BK816 hb
      replace HB := bs_ HB hb
      (try clear hb)
      (try clear hb2)
      (try clear hk)
      (try clear hi)
      (try clear ho0)
      obtain ⟨Ao15, co15, eo15⟩ := Kd.R_slice HO806.out
      (first | subst eo15 | (injection eo15 with f1_ f2_ f3_; have f4_ := f1_.symm; have f5_ := f3_.symm; clear f1_ f2_ f3_; subst f4_; subst f5_))
      refine hK.out _ _ ⟨(blk_cell BK803.out 0).trans rfl, (blk_cell BK803.out 1).trans rfl, (blk_cell BK803.out 2).trans rfl⟩ (fun hHeld => ?_)
      clear hK K
      refine norm_ (a' := ?_) ?_ ?_
      rotate_left
      · show Act.put _ (some 21) _ = _
        simp only [Act.put, List.setIfInBounds_toArray, List.set_cons_zero, List.set_cons_succ, i64_w, i32_w]
        rfl
      refine one_ (i := 4) (N := some 23) #[true, true, true, true, true, false, false, true, false] rfl rfl (one_of HT_.out (by kernel_rfl)) (by decide) (fun K hK => ?_)
      refine gq_ Try.func33 (by kernel_rfl) rfl #[.slice Ao15 t804.length co15, .int .i64 0, .int .i64 (wrap64 (a0)), .int .u8 45] (by rfl) rfl rfl ?_
      with_reducible refine (region_Set.calls k _ _ t804 0 (wrap64 (a0)) 45 t807 _ ?side1 ?side2 A6.out).mono ?_
      (case side1 => repeat (first | exact (Kd.R_reads' HO806.out).2.2 | (with_reducible refine Kd.C_alloc ?_ _) | (with_reducible refine Kd.C_drewN ?_ _) | (with_reducible refine Kd.C_drew ?_)))
      (case side2 => exact (Kd.R_reads' HO806.out).2.1)
      rintro e w16 ⟨v808, rfl, ho0, hb⟩
      refine ⟨_, rfl, ?_⟩
      have n0_ := Aside0.mk (Kd.R_elder' (by (with_reducible repeat (first | apply Kd.R_alloc | apply Kd.R_drewN | apply Kd.R_drew)); exact HO806.out) (Kd.R_base ho0) hb)
      have n1_ := Aside0.mk (Kd.R_lower (Kd.R_new' ho0 (Kd.R_lt (by (with_reducible repeat (first | apply Kd.R_alloc | apply Kd.R_drewN | apply Kd.R_drew)); exact HO806.out))) (below_size (bh_ HB)))
      have n2_ := bb_ BK803 hb
      have n3_ := bb_ BK816 hb
      have n4_ := bs_ HB hb
      clear HO806
      clear BK803
      clear BK816
      clear HB
      have HO806 := n0_
      have HO809 := n1_
      have BK803 := n2_
      have BK816 := n3_
      have HB := n4_
      clear n0_ n1_ n2_ n3_ n4_
      (try clear hb)
      (try clear hb2)
      (try clear hk)
      (try clear hi)
      (try clear ho0)
      obtain ⟨Ao17, co17, eo17⟩ := Kd.R_slice HO809.out
      (first | subst eo17 | (injection eo17 with f1_ f2_ f3_; have f4_ := f1_.symm; have f5_ := f3_.symm; clear f1_ f2_ f3_; subst f4_; subst f5_))
      refine hK.out _ _ ⟨(blk_cell BK803.out 0).trans rfl, (blk_cell BK803.out 1).trans rfl, (blk_cell BK803.out 2).trans rfl⟩ (fun hHeld => ?_)
      clear hK K
      refine norm_ (a' := ?_) ?_ ?_
      rotate_left
      · show Act.put _ (some 23) _ = _
        simp only [Act.put, List.setIfInBounds_toArray, List.set_cons_zero, List.set_cons_succ, i64_w, i32_w]
        rfl
      refine pu_ 5 24 (lb_ 9 191) rfl rfl (any_of HT_.out (by kernel_rfl)) ?_
      refine one_ (i := 6) (N := some 25) #[true, true, true, true, true, true, true, true, false] rfl rfl (one_of HT_.out (by kernel_rfl)) (by decide) (fun K hK => ?_)
      refine gq_ Try.func28 (by kernel_rfl) rfl #[.agg #[.int .i64 t800, .int .i64 t801, .bool t802], .agg #[.int .i64 0, .int .i64 0, .int .u8 63, .slice Ao17 t807.length co17]] (by rfl) rfl rfl ?_
      with_reducible refine (plan_Begin.calls k t800 t801 t802 0 0 63 _ _ t807 t810 t811 t812 t813 _ ?side1 ?side2 A7.out).mono ?_
      (case side1 => repeat (first | exact (Kd.R_reads' HO809.out).2.2 | (with_reducible refine Kd.C_alloc ?_ _) | (with_reducible refine Kd.C_drewN ?_ _) | (with_reducible refine Kd.C_drew ?_)))
      (case side2 => exact (Kd.R_reads' HO809.out).2.1)
      rintro e w18 ⟨v814, rfl, ho0, hb⟩
      refine ⟨_, rfl, ?_⟩
      have n0_ := Aside0.mk (Kd.R_elder' (by (with_reducible repeat (first | apply Kd.R_alloc | apply Kd.R_drewN | apply Kd.R_drew)); exact HO806.out) (Kd.R_base ho0) hb)
      have n1_ := Aside0.mk (Kd.R_elder' (by (with_reducible repeat (first | apply Kd.R_alloc | apply Kd.R_drewN | apply Kd.R_drew)); exact HO809.out) (Kd.R_base ho0) hb)
      have n2_ := Aside0.mk (Kd.R_lower (Kd.R_new' (Kd.R_new' ho0 (Kd.R_lt (by (with_reducible repeat (first | apply Kd.R_alloc | apply Kd.R_drewN | apply Kd.R_drew)); exact HO806.out))) (Kd.R_lt (by (with_reducible repeat (first | apply Kd.R_alloc | apply Kd.R_drewN | apply Kd.R_drew)); exact HO809.out))) (below_size (bh_ HB)))
      have n3_ := bb_ BK803 hb
      have n4_ := bb_ BK816 hb
      have n5_ := bs_ HB hb
      clear HO806
      clear HO809
      clear BK803
      clear BK816
      clear HB
      have HO806 := n0_
      have HO809 := n1_
      have HO815 := n2_
      have BK803 := n3_
      have BK816 := n4_
      have HB := n5_
      clear n0_ n1_ n2_ n3_ n4_ n5_
      (try clear hb)
      (try clear hb2)
      (try clear hk)
      (try clear hi)
      (try clear ho0)
      refine hK.out _ _ ⟨(blk_cell BK803.out 0).trans rfl, (blk_cell BK803.out 1).trans rfl, (blk_cell BK803.out 2).trans rfl⟩ (fun hHeld => ?_)
      clear hK K
      refine norm_ (a' := ?_) ?_ ?_
      rotate_left
      · show Act.put _ (some 25) _ = _
        simp only [Act.put, List.setIfInBounds_toArray, List.set_cons_zero, List.set_cons_succ, i64_w, i32_w]
        rfl
      exact norm_ (by simp only [putAll, Act.put, List.setIfInBounds_toArray, List.set_cons_zero, List.set_cons_succ]) (hCont (.slice Ao15 t804.length co15, .slice Ao17 t807.length co17, v814, gb816) _ ⟨hHeld, (by (with_reducible repeat (first | apply Kd.R_alloc | apply Kd.R_drewN | apply Kd.R_drew)); exact Kd.R_mono HO806.out (fun _ hk => ⟨hk.1.2, hk.2⟩)), (by (with_reducible repeat (first | apply Kd.R_alloc | apply Kd.R_drewN | apply Kd.R_drew)); exact Kd.R_mono HO809.out (fun _ hk => ⟨hk.1.2, hk.2⟩)), (by (with_reducible repeat (first | apply Kd.R_alloc | apply Kd.R_drewN | apply Kd.R_drew)); exact Kd.R_mono HO815.out (fun _ hk => ⟨hk.1.2, hk.2⟩)), (bq_ BK803), (bq_ BK816), GW816.out, GE816.out, NB803_816.out, NB816_803.out, (bh_ HB)⟩)
  rintro ⟨v805, v808, v814, gb816⟩ w19 ⟨hS_, h0_, h1_, h2_, h3_, h4_, h5_, h6_, h7_, h8_, h9_⟩
  have n0_ : Aside0 (Kd.R k33 33 w19 w.heap.size (fun k_ => some k_ ≠ (v808 : Value).ownBlock ∧ some k_ ≠ (v814 : Value).ownBlock) v805 t804) := ⟨h0_⟩
  have n1_ : Aside0 (Kd.R k33 33 w19 w.heap.size (fun k_ => some k_ ≠ (v805 : Value).ownBlock ∧ some k_ ≠ (v814 : Value).ownBlock) v808 t807) := ⟨h1_⟩
  have n2_ : Aside0 (Kd.R k33 33 w19 w.heap.size (fun k_ => some k_ ≠ (v805 : Value).ownBlock ∧ some k_ ≠ (v808 : Value).ownBlock) v814 t813) := ⟨h2_⟩
  have n3_ : Aside0 (w19.heap[gb803]? = some (.cells #[.int .i64 t800, .int .i64 t801, .bool t802] 23 (0, 0))) := ⟨h3_⟩
  have n4_ : Aside0 (w19.heap[gb816]? = some (.cells #[.int .i64 0, .int .i64 0, .int .u8 0, .slice none 0 0] 26 (0, 0))) := ⟨h4_⟩
  have n5_ : Aside0 (w.heap.size ≤ gb816) := ⟨h5_⟩
  have n6_ : Aside0 (w.heap.size ≤ gb816) := ⟨h6_⟩
  have n7_ : Aside0 (gb803 ≠ gb816) := ⟨h7_⟩
  have n8_ : Aside0 (gb816 ≠ gb803) := ⟨h8_⟩
  have n9_ : Aside0 (Below w.heap.size w w19) := ⟨h9_⟩
  clear BK803
  clear HB
  clear h0_ h1_ h2_ h3_ h4_ h5_ h6_ h7_ h8_ h9_
  have HO806 := n0_
  have HO809 := n1_
  have HO815 := n2_
  have BK803 := n3_
  have BK816 := n4_
  have GW816 := n5_
  have GE816 := n6_
  have NB803_816 := n7_
  have NB816_803 := n8_
  have HB := n9_
  clear n0_ n1_ n2_ n3_ n4_ n5_ n6_ n7_ n8_ n9_
  have hHeld : w19.cell? ⟨gb803, 0, none⟩ = some (.int .i64 t800) ∧ w19.cell? ⟨gb803, 1, none⟩ = some (.int .i64 t801) ∧ w19.cell? ⟨gb803, 2, none⟩ = some (.bool t802) := hS_
  obtain ⟨Ao20, co20, eo20⟩ := Kd.R_slice HO809.out
  (first | subst eo20 | (injection eo20 with f1_ f2_ f3_; have f4_ := f1_.symm; have f5_ := f3_.symm; clear f1_ f2_ f3_; subst f4_; subst f5_))
  obtain ⟨Ao24, co24, eo24⟩ := Kd.R_slice HO815.out
  (first | subst eo24 | (injection eo24 with f1_ f2_ f3_; have f4_ := f1_.symm; have f5_ := f3_.symm; clear f1_ f2_ f3_; subst f4_; subst f5_))
  refine norm_ (a' := ?_) ?_ ?_
  rotate_left
  · simp only [putAll, Act.put, List.setIfInBounds_toArray, List.set_cons_zero, List.set_cons_succ]
    rfl
  refine one_ (i := 8) (N := none) #[true, true, true, true, true, true, true, true, true] rfl rfl (one_of HT_.out (by kernel_rfl)) (by decide) (fun K hK => ?_)
  have hs21 : w19.cell? ⟨gb816, 0, none⟩ = some (.int .i64 0) := (blk_cell BK816.out 0).trans rfl
  have hfs21 := blk_frozen BK816.out 0
  have hns21_0 := NB803_816.out
  have hms21_0 := NB816_803.out
  have hs22 : w19.cell? ⟨gb816, 1, none⟩ = some (.int .i64 0) := (blk_cell BK816.out 1).trans rfl
  have hfs22 := blk_frozen BK816.out 1
  have hns22_0 := NB803_816.out
  have hms22_0 := NB816_803.out
  have hs23 : w19.cell? ⟨gb816, 2, none⟩ = some (.int .u8 0) := (blk_cell BK816.out 2).trans rfl
  have hfs23 := blk_frozen BK816.out 2
  have hns23_0 := NB803_816.out
  have hms23_0 := NB816_803.out
  have hs25 : w19.cell? ⟨gb816, 3, none⟩ = some (.slice none 0 0) := (blk_cell BK816.out 3).trans rfl
  have hfs25 := blk_frozen BK816.out 3
  have hns25_0 := NB803_816.out
  have hms25_0 := NB816_803.out
  refine skip_ (w1 := ?_) (by rfl) rfl ?_ ?_
  rotate_left
  · go_simp
    rfl
  refine hK.out _ _ ⟨((cell_far (p := ⟨gb816, _, none⟩) NB803_816.out _).trans (((cell_far (p := ⟨gb816, _, none⟩) NB803_816.out _).trans (((cell_far (p := ⟨gb816, _, none⟩) NB803_816.out _).trans (((cell_far (p := ⟨gb816, _, none⟩) NB803_816.out _).trans (hHeld.1)))))))), ((cell_far (p := ⟨gb816, _, none⟩) NB803_816.out _).trans (((cell_far (p := ⟨gb816, _, none⟩) NB803_816.out _).trans (((cell_far (p := ⟨gb816, _, none⟩) NB803_816.out _).trans (((cell_far (p := ⟨gb816, _, none⟩) NB803_816.out _).trans (hHeld.2.1)))))))), ((cell_far (p := ⟨gb816, _, none⟩) NB803_816.out _).trans (((cell_far (p := ⟨gb816, _, none⟩) NB803_816.out _).trans (((cell_far (p := ⟨gb816, _, none⟩) NB803_816.out _).trans (((cell_far (p := ⟨gb816, _, none⟩) NB803_816.out _).trans (hHeld.2.2))))))))⟩ (fun hHeld => ?_)
  clear hK K
  refine done_ (done_of HT_.out (by kernel_rfl)) ?_
  try go_wp2
  go_loopg [11] k (fun kq v11 w' => ∃ (x11_1 : Int) (x817000_1 : Int) (x817001_1 : Int) (x817002_1 : Int) (x817003_1 : List (S33)) (u817003 : Value), v11 = .int .i64 x11_1 ∧ Aside0 (salvorlaw18_PlanRetries.l0 kq a2 (wrap64 (a0)) (wrap64 (Int.tdiv (wrap64 ((wrap64 ((wrap64 (a0)) + 8)) - 1)) 8)) x11_1 t800 t801 t802 x817000_1 x817001_1 x817002_1 x817003_1 = some r) ∧ Aside0 (kq ≤ k) ∧ Aside0 (Kd.R k33 33 w' w.heap.size (fun _ => True) u817003 x817003_1) ∧ Aside0 (w'.heap[gb803]? = some (.cells #[.int .i64 t800, .int .i64 t801, .bool t802] 23 (0, 0))) ∧ Aside0 (w'.heap[gb816]? = some (.cells #[.int .i64 x817000_1, .int .i64 x817001_1, .int .u8 x817002_1, u817003] 26 (0, 0))) ∧ Aside0 (Below w.heap.size w w'))
  case atStart => exact ⟨(0), (t810), (t811), (t812), (t813), (.slice Ao24 t813.length co24), (by first | rfl | (simp; done) | (simp [*]; done)), H', ⟨Nat.le_refl _⟩, ⟨by (with_reducible repeat (first | apply Kd.R_alloc | apply Kd.R_drewN | apply Kd.R_drew)); exact Kd.R_mono (Kd.R_far (p := ⟨gb816, 3, none⟩) (Kd.R_far (p := ⟨gb816, 2, none⟩) (Kd.R_far (p := ⟨gb816, 1, none⟩) (Kd.R_far (p := ⟨gb816, 0, none⟩) (Kd.R_types HO815.out BK816.out (by decide)) (fun _ hk => hk.2) (.int .i64 t810)) (fun _ hk => hk.2) (.int .i64 t811)) (fun _ hk => hk.2) (.int .u8 t812)) (fun _ hk => hk.2) (.slice Ao24 t813.length co24)) (fun _ hk => trivial)⟩, ⟨by (with_reducible repeat (first | refine blk_drewN ?_ _ | refine blk_drew ?_ | refine blk_alloc ?_ _)); refine blk_far ?_ NB803_816.out _; (with_reducible repeat (first | refine blk_drewN ?_ _ | refine blk_drew ?_ | refine blk_alloc ?_ _)); refine blk_far ?_ NB803_816.out _; (with_reducible repeat (first | refine blk_drewN ?_ _ | refine blk_drew ?_ | refine blk_alloc ?_ _)); refine blk_far ?_ NB803_816.out _; (with_reducible repeat (first | refine blk_drewN ?_ _ | refine blk_drew ?_ | refine blk_alloc ?_ _)); refine blk_far ?_ NB803_816.out _; (with_reducible repeat (first | refine blk_drewN ?_ _ | refine blk_drew ?_ | refine blk_alloc ?_ _)); exact BK803.out⟩, ⟨by (with_reducible repeat (first | refine blk_drewN ?_ _ | refine blk_drew ?_ | refine blk_alloc ?_ _)); refine blk_put (cs := #[.int .i64 t810, .int .i64 t811, .int .u8 t812, .slice none 0 0]) ?_ 3 _ rfl; (with_reducible repeat (first | refine blk_drewN ?_ _ | refine blk_drew ?_ | refine blk_alloc ?_ _)); refine blk_put (cs := #[.int .i64 t810, .int .i64 t811, .int .u8 0, .slice none 0 0]) ?_ 2 _ rfl; (with_reducible repeat (first | refine blk_drewN ?_ _ | refine blk_drew ?_ | refine blk_alloc ?_ _)); refine blk_put (cs := #[.int .i64 t810, .int .i64 0, .int .u8 0, .slice none 0 0]) ?_ 1 _ rfl; (with_reducible repeat (first | refine blk_drewN ?_ _ | refine blk_drew ?_ | refine blk_alloc ?_ _)); refine blk_put (cs := #[.int .i64 0, .int .i64 0, .int .u8 0, .slice none 0 0]) ?_ 0 _ rfl; (with_reducible repeat (first | refine blk_drewN ?_ _ | refine blk_drew ?_ | refine blk_alloc ?_ _)); exact BK816.out⟩, ⟨by repeat (first | (with_reducible first | exact HB.out | apply below_alloc | apply pw_below_drewN | apply below_drew1 | refine below_set ?_ GE803.out | refine below_set ?_ GE816.out) | exact HB.out)⟩⟩
  case round =>
    clear H'
    try clear c1
    try clear c2
    try clear p2
    try clear c3
    try clear p6
    try clear c10
    try clear c22
    try clear hcz10_0
    try clear hcz10_1
    try clear hcz10_2
    try clear hfz10_0
    try clear hfz10_1
    try clear hfz10_2
    obtain ⟨x11_1, x817000_1, x817001_1, x817002_1, x817003_1, u817003, rfl, HA, HK1, HO_817003, BK803, BK816, HB⟩ := hrel
    cases gk with
    | zero => exact absurd HA.out (by simp [salvorlaw18_PlanRetries.l0])
    | succ k1 =>
      have H := HA.out
      clear HA
      simp only [salvorlaw18_PlanRetries.l0] at H
      by_cases c26 : x11_1 < (wrap64 ((wrap64 (Int.tdiv (wrap64 ((wrap64 ((wrap64 (a0)) + 8)) - 1)) 8)) * t801))
      · rw [if_pos c26] at H
        have c26b0 : decide (x11_1 < (wrap64 ((wrap64 (Int.tdiv (wrap64 ((wrap64 ((wrap64 (a0)) + 8)) - 1)) 8)) * t801))) = true := decide_eq_true c26
        clear c26
        by_cases c27 : (wrap64 (Int.tdiv (wrap64 ((wrap64 ((wrap64 (a0)) + 8)) - 1)) 8)) = 0
        · rw [if_pos c27] at H
          exact absurd H (by simp)
        · rw [if_neg c27] at H
          have c27b0 : ((wrap64 (Int.tdiv (wrap64 ((wrap64 ((wrap64 (a0)) + 8)) - 1)) 8)) == 0) = false := beq_eq_false_iff_ne.mpr c27
          have c27b1 : ((wrap64 (Int.tdiv (wrap64 ((wrap64 ((wrap64 (a0)) + 8)) - 1)) 8)) != 0) = true := bne_iff_ne.mpr c27
          have HC28 := Aside0.mk H
          clear H
          have hnb29 := NB803_816.out
          have hnc29 := NB816_803.out
          have hcz30_0 : wr.cell? ⟨gb803, 0, none⟩ = some (.int .i64 t800) := (blk_cell BK803.out 0).trans rfl
          have hcz30_1 : wr.cell? ⟨gb803, 1, none⟩ = some (.int .i64 t801) := (blk_cell BK803.out 1).trans rfl
          have hcz30_2 : wr.cell? ⟨gb803, 2, none⟩ = some (.bool t802) := (blk_cell BK803.out 2).trans rfl
          have hfz30_0 := blk_frozen BK803.out 0
          have hfz30_1 := blk_frozen BK803.out 1
          have hfz30_2 := blk_frozen BK803.out 2
          go_upto_if 41 with (fail)
          go_cut [12] (fun v12 wc => ∃ (kq : Nat) (x12_27 : Int), v12 = .int .i64 x12_27 ∧ Aside0 (salvorlaw18_PlanRetries.j1 kq a2 (wrap64 (a0)) (wrap64 (Int.tdiv (wrap64 ((wrap64 ((wrap64 (a0)) + 8)) - 1)) 8)) x11_1 x12_27 t800 t801 t802 x817000_1 x817001_1 x817002_1 x817003_1 = some r) ∧ Aside0 (kq ≤ k1) ∧ Aside0 (Kd.R k33 33 wc w.heap.size (fun _ => True) u817003 x817003_1) ∧ Aside0 (wc.heap[gb803]? = some (.cells #[.int .i64 t800, .int .i64 t801, .bool t802] 23 (0, 0))) ∧ Aside0 (wc.heap[gb816]? = some (.cells #[.int .i64 x817000_1, .int .i64 x817001_1, .int .u8 x817002_1, u817003] 26 (0, 0))) ∧ Aside0 (Below w.heap.size w wc))
          case first =>
            have H := HC28.out
            clear HC28
            by_cases c31 : a2 = true
            · subst c31
              have H1 : (salvorlaw18_PlanRetries.j1 k1 true (wrap64 (a0)) (wrap64 (Int.tdiv (wrap64 ((wrap64 ((wrap64 (a0)) + 8)) - 1)) 8)) x11_1 (wrap64 ((wrap64 ((wrap64 (Int.tdiv (wrap64 ((wrap64 ((wrap64 (a0)) + 8)) - 1)) 8)) - 1)) - (Int.tmod x11_1 (wrap64 (Int.tdiv (wrap64 ((wrap64 ((wrap64 (a0)) + 8)) - 1)) 8))))) t800 t801 t802 x817000_1 x817001_1 x817002_1 x817003_1) = some r := by rw [if_pos rfl] at H; exact H
              clear H
              have H := H1
              clear H1
              have H' := Aside0.mk H
              clear H
              go_wp2
              go_meet
              case rel => exact ⟨_, (wrap64 ((wrap64 ((wrap64 (Int.tdiv (wrap64 ((wrap64 ((wrap64 (a0)) + 8)) - 1)) 8)) - 1)) - (Int.tmod x11_1 (wrap64 (Int.tdiv (wrap64 ((wrap64 ((wrap64 (a0)) + 8)) - 1)) 8))))), (by first | rfl | (simp; done) | (simp [*]; done)), H', ⟨by have := HK1.out; first | omega | exact Nat.le_refl _⟩, ⟨by (with_reducible repeat (first | apply Kd.R_alloc | apply Kd.R_drewN | apply Kd.R_drew)); exact HO_817003.out⟩, ⟨by (with_reducible repeat (first | refine blk_drewN ?_ _ | refine blk_drew ?_ | refine blk_alloc ?_ _)); exact BK803.out⟩, ⟨by (with_reducible repeat (first | refine blk_drewN ?_ _ | refine blk_drew ?_ | refine blk_alloc ?_ _)); exact BK816.out⟩, ⟨by repeat (first | (with_reducible first | exact HB.out | apply below_alloc | apply pw_below_drewN | apply below_drew1 | refine below_set ?_ GE803.out | refine below_set ?_ GE816.out) | exact HB.out)⟩⟩
            · replace c31 := Bool.eq_false_iff.mpr c31
              subst c31
              have H1 : (salvorlaw18_PlanRetries.j1 k1 false (wrap64 (a0)) (wrap64 (Int.tdiv (wrap64 ((wrap64 ((wrap64 (a0)) + 8)) - 1)) 8)) x11_1 (Int.tmod x11_1 (wrap64 (Int.tdiv (wrap64 ((wrap64 ((wrap64 (a0)) + 8)) - 1)) 8))) t800 t801 t802 x817000_1 x817001_1 x817002_1 x817003_1) = some r := by rw [if_neg (show ¬ (false = true) by decide)] at H; exact H
              clear H
              have H := H1
              clear H1
              have H' := Aside0.mk H
              clear H
              go_wp2
              go_meet
              case rel => exact ⟨_, (Int.tmod x11_1 (wrap64 (Int.tdiv (wrap64 ((wrap64 ((wrap64 (a0)) + 8)) - 1)) 8))), (by first | rfl | (simp; done) | (simp [*]; done)), H', ⟨by have := HK1.out; first | omega | exact Nat.le_refl _⟩, ⟨by (with_reducible repeat (first | apply Kd.R_alloc | apply Kd.R_drewN | apply Kd.R_drew)); exact HO_817003.out⟩, ⟨by (with_reducible repeat (first | refine blk_drewN ?_ _ | refine blk_drew ?_ | refine blk_alloc ?_ _)); exact BK803.out⟩, ⟨by (with_reducible repeat (first | refine blk_drewN ?_ _ | refine blk_drew ?_ | refine blk_alloc ?_ _)); exact BK816.out⟩, ⟨by repeat (first | (with_reducible first | exact HB.out | apply below_alloc | apply pw_below_drewN | apply below_drew1 | refine below_set ?_ GE803.out | refine below_set ?_ GE816.out) | exact HB.out)⟩⟩
          case rest =>
            clear HC28
            try clear c1
            try clear c2
            try clear p2
            try clear c3
            try clear p6
            try clear c10
            try clear c22
            try clear c26
            try clear c26b0
            try clear c27
            try clear c27b0
            try clear c27b1
            try clear c28
            try clear c29
            try clear c31
            try clear hcz10_0
            try clear hcz10_1
            try clear hcz10_2
            try clear hcz30_0
            try clear hcz30_1
            try clear hcz30_2
            try clear hfz10_0
            try clear hfz10_1
            try clear hfz10_2
            try clear hfz30_0
            try clear hfz30_1
            try clear hfz30_2
            try clear p2
            try clear p6
            obtain ⟨kq, x12_27, rfl, HA, HJ27, HO_817003, BK803, BK816, HB⟩ := hcut
            cases kq with
            | zero => exact absurd HA.out (by simp [salvorlaw18_PlanRetries.j1])
            | succ kj27 =>
              have H := HA.out
              clear HA
              simp only [salvorlaw18_PlanRetries.j1] at H
              replace H := Option.bind_eq_some_iff.mp H
              obtain ⟨⟨t825, t826, t827⟩, A320, H⟩ := H
              replace H : (if (!(t825 == 4) || (!(t826 == (wrap64 (x12_27 * 8))) || (!(t827 == (mn 8 (wrap64 ((wrap64 (a0)) - (wrap64 (x12_27 * 8))))))))) = true then (some false) else (if x817002_1 = 45 then ((plan_After.f kj27 t800 t801 t802 x817000_1 x817001_1 x817002_1 x817003_1 0).bind fun bt829 => (salvorlaw18_PlanRetries.l0 kj27 a2 (wrap64 (a0)) (wrap64 (Int.tdiv (wrap64 ((wrap64 ((wrap64 (a0)) + 8)) - 1)) 8)) (wrap64 (x11_1 + 1)) t800 t801 t802 bt829.1 bt829.2.1 bt829.2.2.1 bt829.2.2.2)) else (some false))) = some r := H
              have A32 := Aside0.mk A320
              clear A320
              obtain ⟨ji33, hji33⟩ : ∃ j_ : Int, (mn 8 (wrap64 ((wrap64 (a0)) - (wrap64 (x12_27 * 8))))) = j_ := ⟨_, rfl⟩
              replace H : (if (!(t825 == 4) || (!(t826 == (wrap64 (x12_27 * 8))) || (!(t827 == (ji33))))) = true then (some false) else (if x817002_1 = 45 then ((plan_After.f kj27 t800 t801 t802 x817000_1 x817001_1 x817002_1 x817003_1 0).bind fun bt829 => (salvorlaw18_PlanRetries.l0 kj27 a2 (wrap64 (a0)) (wrap64 (Int.tdiv (wrap64 ((wrap64 ((wrap64 (a0)) + 8)) - 1)) 8)) (wrap64 (x11_1 + 1)) t800 t801 t802 bt829.1 bt829.2.1 bt829.2.2.1 bt829.2.2.2)) else (some false))) = some r := by first | (rw [hji33] at H; exact H) | (simp only [hji33] at H ⊢; exact H)
              (try rw [hji33] at A32)
              have hji33_ : (if (wrap64 ((wrap64 (a0)) - (wrap64 (x12_27 * 8)))) < 8 then (wrap64 ((wrap64 (a0)) - (wrap64 (x12_27 * 8)))) else 8) = ji33 := hji33
              have hji33k_ : (if (IntKind.i64.wrap ((IntKind.i64.wrap (a0)) - (IntKind.i64.wrap (x12_27 * 8)))) < 8 then (IntKind.i64.wrap ((IntKind.i64.wrap (a0)) - (IntKind.i64.wrap (x12_27 * 8)))) else 8) = ji33 := by simp only [i64_w]; exact hji33_
              by_cases c34 : (!(t825 == 4) || (!(t826 == (wrap64 (x12_27 * 8))) || (!(t827 == (ji33))))) = true
              · rw [if_pos c34] at H
                have c34b0 : (!(t825 == 4) || (!(t826 == (wrap64 (x12_27 * 8))) || (!(t827 == (ji33))))) = true := c34
                clear c34
                exact absurd ((Option.some.inj H).trans HT.out) (by simp)
              · rw [if_neg c34] at H
                have c34b0 : (!(t825 == 4) || (!(t826 == (wrap64 (x12_27 * 8))) || (!(t827 == (ji33))))) = false := by simpa using c34
                clear c34
                by_cases c35 : x817002_1 = 45
                · rw [if_pos c35] at H
                  have c35b0 : (x817002_1 == 45) = true := beq_iff_eq.mpr c35
                  have c35b1 : (x817002_1 != 45) = false := bne_eq_false_iff_eq.mpr c35
                  clear c35
                  replace H := Option.bind_eq_some_iff.mp H
                  obtain ⟨⟨t829, t830, t831, t832⟩, A360, H⟩ := H
                  replace H : (salvorlaw18_PlanRetries.l0 kj27 a2 (wrap64 (a0)) (wrap64 (Int.tdiv (wrap64 ((wrap64 ((wrap64 (a0)) + 8)) - 1)) 8)) (wrap64 (x11_1 + 1)) t800 t801 t802 t829 t830 t831 t832) = some r := H
                  have A36 := Aside0.mk A360
                  clear A360
                  have H' := Aside0.mk H
                  clear H
                  have hnb37 := NB803_816.out
                  have hnc37 := NB816_803.out
                  have hcz38_0 : wc.cell? ⟨gb803, 0, none⟩ = some (.int .i64 t800) := (blk_cell BK803.out 0).trans rfl
                  have hcz38_1 : wc.cell? ⟨gb803, 1, none⟩ = some (.int .i64 t801) := (blk_cell BK803.out 1).trans rfl
                  have hcz38_2 : wc.cell? ⟨gb803, 2, none⟩ = some (.bool t802) := (blk_cell BK803.out 2).trans rfl
                  have hfz38_0 := blk_frozen BK803.out 0
                  have hfz38_1 := blk_frozen BK803.out 1
                  have hfz38_2 := blk_frozen BK803.out 2
                  have hcz39_0 : wc.cell? ⟨gb816, 0, none⟩ = some (.int .i64 x817000_1) := (blk_cell BK816.out 0).trans rfl
                  have hcz39_1 : wc.cell? ⟨gb816, 1, none⟩ = some (.int .i64 x817001_1) := (blk_cell BK816.out 1).trans rfl
                  have hcz39_2 : wc.cell? ⟨gb816, 2, none⟩ = some (.int .u8 x817002_1) := (blk_cell BK816.out 2).trans rfl
                  have hcz39_3 : wc.cell? ⟨gb816, 3, none⟩ = some (u817003) := (blk_cell BK816.out 3).trans rfl
                  have hfz39_0 := blk_frozen BK816.out 0
                  have hfz39_1 := blk_frozen BK816.out 1
                  have hfz39_2 := blk_frozen BK816.out 2
                  have hfz39_3 := blk_frozen BK816.out 3
                  obtain ⟨Ao40, co40, eo40⟩ := Kd.R_slice HO_817003.out
                  subst eo40
                  go_wp2_with (first | ((with_reducible refine gate_callee (f := 12) rfl ?_); refine gl_ (some 48) rfl rfl Try.func12 (by kernel_rfl) rfl #[.agg #[.int .i64 t800, .int .i64 t801, .bool t802], .agg #[.int .i64 x817000_1, .int .i64 x817001_1, .int .u8 x817002_1, .slice Ao40 x817003_1.length co40]] rfl ?_; (with_reducible refine (plan_Next.calls kj27 t800 t801 t802 x817000_1 x817001_1 x817002_1 _ _ x817003_1 t825 t826 t827 _ ?side1 ?side2 A32.out).mono ?_); (case side1 => repeat (first | exact (Kd.R_reads' HO_817003.out).2.2 | (with_reducible refine Kd.C_alloc ?_ _) | (with_reducible refine Kd.C_drewN ?_ _) | (with_reducible refine Kd.C_drew ?_))); (case side2 => exact (Kd.R_reads' HO_817003.out).2.1); rintro e w41 ⟨rfl, hb⟩; refine ⟨_, rfl, ?_⟩; have n0_ := Aside0.mk (Kd.R_below (by (with_reducible repeat (first | apply Kd.R_alloc | apply Kd.R_drewN | apply Kd.R_drew)); exact HO_817003.out) hb); have n1_ := bb_ BK803 hb; have n2_ := bb_ BK816 hb; have n3_ := bs_ HB hb; clear HO_817003; clear BK803; clear BK816; clear HB; have HO_817003 := n0_; have BK803 := n1_; have BK816 := n2_; have HB := n3_; clear n0_ n1_ n2_ n3_; (try clear hb); (try clear hb2); (try clear hk); (try clear hi)) | ((with_reducible refine gate_dst (N := 13) rfl ?_); (try (refine gate_guard (by rfl) ?_; dsimp only)); refine box_e 13 #[.int .i64 0, .int .i64 0, .int .i64 0] 29 ?_; intro gb828 hg w42 hbox hb; have n0_ := Aside0.mk (Kd.R_below (by (with_reducible repeat (first | apply Kd.R_alloc | apply Kd.R_drewN | apply Kd.R_drew)); exact HO_817003.out) hb); have n1_ := bb_ BK803 hb; have n2_ := bb_ BK816 hb; have n3_ := bs_ HB hb; have n4_ := Aside0.mk hbox; have n5_ := bg_ HB hg; have n6_ := bg_ HB hg; have n7_ := bn_ BK803 hg; have n8_ := bm_ BK803 hg; have n9_ := bn_ BK816 hg; have n10_ := bm_ BK816 hg; clear HO_817003; clear BK803; clear BK816; clear HB; have HO_817003 := n0_; have BK803 := n1_; have BK816 := n2_; have HB := n3_; have BK828 := n4_; have GW828 := n5_; have GE828 := n6_; have NB803_828 := n7_; have NB828_803 := n8_; have NB816_828 := n9_; have NB828_816 := n10_; clear n0_ n1_ n2_ n3_ n4_ n5_ n6_ n7_ n8_ n9_ n10_; clear hb hbox hg; have hnb43 := NB828_803.out; have hnc43 := NB803_828.out; have hnb44 := NB828_816.out; have hnc44 := NB816_828.out; have hcz45_0 : w42.cell? ⟨gb828, 0, none⟩ = some (.int .i64 0) := (blk_cell BK828.out 0).trans rfl; have hcz45_1 : w42.cell? ⟨gb828, 1, none⟩ = some (.int .i64 0) := (blk_cell BK828.out 1).trans rfl; have hcz45_2 : w42.cell? ⟨gb828, 2, none⟩ = some (.int .i64 0) := (blk_cell BK828.out 2).trans rfl; have hfz45_0 := blk_frozen BK828.out 0; have hfz45_1 := blk_frozen BK828.out 1; have hfz45_2 := blk_frozen BK828.out 2; have hcz46_0 : w42.cell? ⟨gb816, 0, none⟩ = some (.int .i64 x817000_1) := (blk_cell BK816.out 0).trans rfl; have hcz46_1 : w42.cell? ⟨gb816, 1, none⟩ = some (.int .i64 x817001_1) := (blk_cell BK816.out 1).trans rfl; have hcz46_2 : w42.cell? ⟨gb816, 2, none⟩ = some (.int .u8 x817002_1) := (blk_cell BK816.out 2).trans rfl; have hcz46_3 : w42.cell? ⟨gb816, 3, none⟩ = some (.slice Ao40 x817003_1.length co40) := (blk_cell BK816.out 3).trans rfl; have hfz46_0 := blk_frozen BK816.out 0; have hfz46_1 := blk_frozen BK816.out 1; have hfz46_2 := blk_frozen BK816.out 2; have hfz46_3 := blk_frozen BK816.out 3; have hcz47_0 : w42.cell? ⟨gb803, 0, none⟩ = some (.int .i64 t800) := (blk_cell BK803.out 0).trans rfl; have hcz47_1 : w42.cell? ⟨gb803, 1, none⟩ = some (.int .i64 t801) := (blk_cell BK803.out 1).trans rfl; have hcz47_2 : w42.cell? ⟨gb803, 2, none⟩ = some (.bool t802) := (blk_cell BK803.out 2).trans rfl; have hfz47_0 := blk_frozen BK803.out 0; have hfz47_1 := blk_frozen BK803.out 1; have hfz47_2 := blk_frozen BK803.out 2) | ((with_reducible refine gate_callee (f := 13) rfl ?_); refine gl_ (some 66) rfl rfl Try.func13 (by kernel_rfl) rfl #[.agg #[.int .i64 t800, .int .i64 t801, .bool t802], .agg #[.int .i64 x817000_1, .int .i64 x817001_1, .int .u8 x817002_1, .slice Ao40 x817003_1.length co40], .int .i64 0] rfl ?_; (with_reducible refine (plan_After.calls kj27 t800 t801 t802 x817000_1 x817001_1 x817002_1 _ _ x817003_1 0 t829 t830 t831 t832 _ ?side1 ?side2 A36.out).mono ?_); (case side1 => refine (Kd.R_reads' (e := 33) (base := w.heap.size) (ok := fun k_ => True) (n := x817003_1.length) (c := co40) ?_).2.2; exact (by (with_reducible repeat (first | apply Kd.R_alloc | apply Kd.R_drewN | apply Kd.R_drew)); exact (Kd.R_mono (Kd.R_far (p := ⟨gb828, 2, none⟩) (Kd.R_far (p := ⟨gb828, 1, none⟩) (Kd.R_far (p := ⟨gb828, 0, none⟩) (Kd.R_types HO_817003.out BK828.out (by decide)) (fun _ hk => hk.2) (.int .i64 t825)) (fun _ hk => hk.2) (.int .i64 t826)) (fun _ hk => hk.2) (.int .i64 t827)) (fun _ h_ => h_.1)))); (case side2 => exact (Kd.R_reads' HO_817003.out).2.1); rintro e w48 ⟨v833, rfl, ho0, hb⟩; refine ⟨_, rfl, ?_⟩; have n0_ := Aside0.mk (Kd.R_elder' (by (with_reducible repeat (first | apply Kd.R_alloc | apply Kd.R_drewN | apply Kd.R_drew)); exact (Kd.R_mono (Kd.R_far (p := ⟨gb828, 2, none⟩) (Kd.R_far (p := ⟨gb828, 1, none⟩) (Kd.R_far (p := ⟨gb828, 0, none⟩) (Kd.R_types HO_817003.out BK828.out (by decide)) (fun _ hk => hk.2) (.int .i64 t825)) (fun _ hk => hk.2) (.int .i64 t826)) (fun _ hk => hk.2) (.int .i64 t827)) (fun _ h_ => h_.1))) (Kd.R_base ho0) hb); have n1_ := Aside0.mk (Kd.R_lower (Kd.R_new' ho0 (Kd.R_lt (by (with_reducible repeat (first | apply Kd.R_alloc | apply Kd.R_drewN | apply Kd.R_drew)); exact (Kd.R_mono (Kd.R_far (p := ⟨gb828, 2, none⟩) (Kd.R_far (p := ⟨gb828, 1, none⟩) (Kd.R_far (p := ⟨gb828, 0, none⟩) (Kd.R_types HO_817003.out BK828.out (by decide)) (fun _ hk => hk.2) (.int .i64 t825)) (fun _ hk => hk.2) (.int .i64 t826)) (fun _ hk => hk.2) (.int .i64 t827)) (fun _ h_ => h_.1))))) (below_size (bh_ HB))); have n2_ := Aside0.mk (blk_below (g := gb803) (o := .cells #[.int .i64 t800, .int .i64 t801, .bool t802] 23 (0, 0)) (bp_ BK803) hb); have n3_ := Aside0.mk (blk_below (g := gb816) (o := .cells #[.int .i64 x817000_1, .int .i64 x817001_1, .int .u8 x817002_1, .slice Ao40 x817003_1.length co40] 26 (0, 0)) (bp_ BK816) hb); have n4_ := Aside0.mk (blk_below (g := gb828) (o := .cells #[.int .i64 t825, .int .i64 t826, .int .i64 t827] 29 (0, 0)) (bp_ BK828) hb); have n5_ := bs_ HB hb; clear HO_817003; clear BK803; clear BK816; clear BK828; clear HB; have HO_817003 := n0_; have HO834 := n1_; have BK803 := n2_; have BK816 := n3_; have BK828 := n4_; have HB := n5_; clear n0_ n1_ n2_ n3_ n4_ n5_; (try clear hb); (try clear hb2); (try clear hk); (try clear hi); (try clear ho0); have hcz49_0 : w48.cell? ⟨gb816, 0, none⟩ = some (.int .i64 x817000_1) := (blk_cell BK816.out 0).trans rfl; have hcz49_1 : w48.cell? ⟨gb816, 1, none⟩ = some (.int .i64 x817001_1) := (blk_cell BK816.out 1).trans rfl; have hcz49_2 : w48.cell? ⟨gb816, 2, none⟩ = some (.int .u8 x817002_1) := (blk_cell BK816.out 2).trans rfl; have hcz49_3 : w48.cell? ⟨gb816, 3, none⟩ = some (.slice Ao40 x817003_1.length co40) := (blk_cell BK816.out 3).trans rfl; have hfz49_0 := blk_frozen BK816.out 0; have hfz49_1 := blk_frozen BK816.out 1; have hfz49_2 := blk_frozen BK816.out 2; have hfz49_3 := blk_frozen BK816.out 3; obtain ⟨Ao50, co50, eo50⟩ := Kd.R_slice HO834.out; subst eo50))
                  go_roundg kj27
                  case measure => have := HK1.out; have := HJ27.out; omega
                  case rel => exact ⟨(wrap64 (x11_1 + 1)), (t829), (t830), (t831), (t832), (.slice Ao50 t832.length co50), (by first | rfl | (simp; done) | (simp [*]; done)), H', ⟨by have := HK1.out; have := HJ27.out; omega⟩, ⟨by (with_reducible repeat (first | apply Kd.R_alloc | apply Kd.R_drewN | apply Kd.R_drew)); exact Kd.R_mono (Kd.R_far (p := ⟨gb816, 3, none⟩) (Kd.R_far (p := ⟨gb816, 2, none⟩) (Kd.R_far (p := ⟨gb816, 1, none⟩) (Kd.R_far (p := ⟨gb816, 0, none⟩) (Kd.R_types HO834.out BK816.out (by decide)) (fun _ hk => hk.2) (.int .i64 t829)) (fun _ hk => hk.2) (.int .i64 t830)) (fun _ hk => hk.2) (.int .u8 t831)) (fun _ hk => hk.2) (.slice Ao50 t832.length co50)) (fun _ hk => trivial)⟩, ⟨by (with_reducible repeat (first | refine blk_drewN ?_ _ | refine blk_drew ?_ | refine blk_alloc ?_ _)); refine blk_far ?_ NB803_816.out _; (with_reducible repeat (first | refine blk_drewN ?_ _ | refine blk_drew ?_ | refine blk_alloc ?_ _)); refine blk_far ?_ NB803_816.out _; (with_reducible repeat (first | refine blk_drewN ?_ _ | refine blk_drew ?_ | refine blk_alloc ?_ _)); refine blk_far ?_ NB803_816.out _; (with_reducible repeat (first | refine blk_drewN ?_ _ | refine blk_drew ?_ | refine blk_alloc ?_ _)); refine blk_far ?_ NB803_816.out _; (with_reducible repeat (first | refine blk_drewN ?_ _ | refine blk_drew ?_ | refine blk_alloc ?_ _)); exact BK803.out⟩, ⟨by (with_reducible repeat (first | refine blk_drewN ?_ _ | refine blk_drew ?_ | refine blk_alloc ?_ _)); refine blk_put (cs := #[.int .i64 t829, .int .i64 t830, .int .u8 t831, .slice Ao40 x817003_1.length co40]) ?_ 3 _ rfl; (with_reducible repeat (first | refine blk_drewN ?_ _ | refine blk_drew ?_ | refine blk_alloc ?_ _)); refine blk_put (cs := #[.int .i64 t829, .int .i64 t830, .int .u8 x817002_1, .slice Ao40 x817003_1.length co40]) ?_ 2 _ rfl; (with_reducible repeat (first | refine blk_drewN ?_ _ | refine blk_drew ?_ | refine blk_alloc ?_ _)); refine blk_put (cs := #[.int .i64 t829, .int .i64 x817001_1, .int .u8 x817002_1, .slice Ao40 x817003_1.length co40]) ?_ 1 _ rfl; (with_reducible repeat (first | refine blk_drewN ?_ _ | refine blk_drew ?_ | refine blk_alloc ?_ _)); refine blk_put (cs := #[.int .i64 x817000_1, .int .i64 x817001_1, .int .u8 x817002_1, .slice Ao40 x817003_1.length co40]) ?_ 0 _ rfl; (with_reducible repeat (first | refine blk_drewN ?_ _ | refine blk_drew ?_ | refine blk_alloc ?_ _)); exact BK816.out⟩, ⟨by repeat (first | (with_reducible first | exact HB.out | apply below_alloc | apply pw_below_drewN | apply below_drew1 | refine below_set ?_ GE803.out | refine below_set ?_ GE816.out | refine below_set ?_ GE828.out) | exact HB.out)⟩⟩
                · rw [if_neg c35] at H
                  have c35b0 : (x817002_1 == 45) = false := beq_eq_false_iff_ne.mpr c35
                  have c35b1 : (x817002_1 != 45) = true := bne_iff_ne.mpr c35
                  exact absurd ((Option.some.inj H).trans HT.out) (by simp)
      · rw [if_neg c26] at H
        have c26b0 : decide (x11_1 < (wrap64 ((wrap64 (Int.tdiv (wrap64 ((wrap64 ((wrap64 (a0)) + 8)) - 1)) 8)) * t801))) = false := decide_eq_false c26
        clear c26
        replace H := Option.bind_eq_some_iff.mp H
        obtain ⟨⟨t817, t818, t819⟩, A510, H⟩ := H
        replace H : (if (t817 == 0 && (t818 == 0 && (t819 == 0))) = true then (if x817002_1 = 43 then ((region_Count.f k1 x817003_1 (([45] : List Int))).bind fun t823 => (if t823 = (wrap64 (a0)) then ((salvorlaw18_PlanRuns.f k1).bind fun t824 => (some t824)) else (some false))) else (some false)) else (some false)) = some r := H
        have A51 := Aside0.mk A510
        clear A510
        by_cases c52 : (t817 == 0 && (t818 == 0 && (t819 == 0))) = true
        · rw [if_pos c52] at H
          have c52b0 : (t817 == 0 && (t818 == 0 && (t819 == 0))) = true := c52
          (try (have c52b1 : decide (t817 = 0 && (t818 == 0 && (t819 == 0))) = true := by simpa using c52))
          (try (have c52b2 : (t817 == 0 && (t818 == 0 && (t819 == 0))) = true := by simpa using c52))
          clear c52
          by_cases c53 : x817002_1 = 43
          · rw [if_pos c53] at H
            have c53b0 : (x817002_1 == 43) = true := beq_iff_eq.mpr c53
            have c53b1 : (x817002_1 != 43) = false := bne_eq_false_iff_eq.mpr c53
            clear c53
            obtain ⟨y820, hy820⟩ : ∃ y_ : List Int, y_ = (([45] : List Int)) := ⟨_, rfl⟩
            replace H : ((region_Count.f k1 x817003_1 y820).bind fun t823 => (if t823 = (wrap64 (a0)) then ((salvorlaw18_PlanRuns.f k1).bind fun t824 => (some t824)) else (some false))) = some r := by first | (rw [hy820]; with_reducible exact H) | (have H2_ := (Option.bind_some _ _).symm.trans H; rw [hy820]; with_reducible exact H2_) | (have H2_ := (Option.bind_some _ _).symm.trans H; with_reducible exact H2_) | with_reducible exact H | (rw [hy820]; exact H) | exact H
            have Ny820 := Aside0.mk hy820
            clear hy820
            replace H := Option.bind_eq_some_iff.mp H
            obtain ⟨t823, A540, H⟩ := H
            replace H : (if t823 = (wrap64 (a0)) then ((salvorlaw18_PlanRuns.f k1).bind fun t824 => (some t824)) else (some false)) = some r := H
            have A54 := Aside0.mk A540
            clear A540
            by_cases c55 : t823 = (wrap64 (a0))
            · rw [if_pos c55] at H
              have c55b0 : (t823 == (wrap64 (a0))) = true := beq_iff_eq.mpr c55
              have c55b1 : (t823 != (wrap64 (a0))) = false := bne_eq_false_iff_eq.mpr c55
              clear c55
              replace H := Option.bind_eq_some_iff.mp H
              obtain ⟨t824, A560, H⟩ := H
              replace H : (some t824) = some r := H
              have A56 := Aside0.mk A560
              clear A560
              obtain rfl := Option.some.inj H
              have hnb57 := NB803_816.out
              have hnc57 := NB816_803.out
              have hcz58_0 : wr.cell? ⟨gb803, 0, none⟩ = some (.int .i64 t800) := (blk_cell BK803.out 0).trans rfl
              have hcz58_1 : wr.cell? ⟨gb803, 1, none⟩ = some (.int .i64 t801) := (blk_cell BK803.out 1).trans rfl
              have hcz58_2 : wr.cell? ⟨gb803, 2, none⟩ = some (.bool t802) := (blk_cell BK803.out 2).trans rfl
              have hfz58_0 := blk_frozen BK803.out 0
              have hfz58_1 := blk_frozen BK803.out 1
              have hfz58_2 := blk_frozen BK803.out 2
              have hcz59_0 : wr.cell? ⟨gb816, 0, none⟩ = some (.int .i64 x817000_1) := (blk_cell BK816.out 0).trans rfl
              have hcz59_1 : wr.cell? ⟨gb816, 1, none⟩ = some (.int .i64 x817001_1) := (blk_cell BK816.out 1).trans rfl
              have hcz59_2 : wr.cell? ⟨gb816, 2, none⟩ = some (.int .u8 x817002_1) := (blk_cell BK816.out 2).trans rfl
              have hcz59_3 : wr.cell? ⟨gb816, 3, none⟩ = some (u817003) := (blk_cell BK816.out 3).trans rfl
              have hfz59_0 := blk_frozen BK816.out 0
              have hfz59_1 := blk_frozen BK816.out 1
              have hfz59_2 := blk_frozen BK816.out 2
              have hfz59_3 := blk_frozen BK816.out 3
              obtain ⟨Ao60, co60, eo60⟩ := Kd.R_slice HO_817003.out
              subst eo60
              go_wp2_with (first | ((with_reducible refine gate_callee (f := 12) rfl ?_); refine gl_ (some 69) rfl rfl Try.func12 (by kernel_rfl) rfl #[.agg #[.int .i64 t800, .int .i64 t801, .bool t802], .agg #[.int .i64 x817000_1, .int .i64 x817001_1, .int .u8 x817002_1, .slice Ao60 x817003_1.length co60]] rfl ?_; (with_reducible refine (plan_Next.calls k1 t800 t801 t802 x817000_1 x817001_1 x817002_1 _ _ x817003_1 t817 t818 t819 _ ?side1 ?side2 A51.out).mono ?_); (case side1 => repeat (first | exact (Kd.R_reads' HO_817003.out).2.2 | (with_reducible refine Kd.C_alloc ?_ _) | (with_reducible refine Kd.C_drewN ?_ _) | (with_reducible refine Kd.C_drew ?_))); (case side2 => exact (Kd.R_reads' HO_817003.out).2.1); rintro e w61 ⟨rfl, hb⟩; refine ⟨_, rfl, ?_⟩; have n0_ := Aside0.mk (Kd.R_below (by (with_reducible repeat (first | apply Kd.R_alloc | apply Kd.R_drewN | apply Kd.R_drew)); exact HO_817003.out) hb); have n1_ := bb_ BK803 hb; have n2_ := bb_ BK816 hb; have n3_ := bs_ HB hb; clear HO_817003; clear BK803; clear BK816; clear HB; have HO_817003 := n0_; have BK803 := n1_; have BK816 := n2_; have HB := n3_; clear n0_ n1_ n2_ n3_; (try clear hb); (try clear hb2); (try clear hk); (try clear hi); have hcz62_0 : w61.cell? ⟨gb816, 0, none⟩ = some (.int .i64 x817000_1) := (blk_cell BK816.out 0).trans rfl; have hcz62_1 : w61.cell? ⟨gb816, 1, none⟩ = some (.int .i64 x817001_1) := (blk_cell BK816.out 1).trans rfl; have hcz62_2 : w61.cell? ⟨gb816, 2, none⟩ = some (.int .u8 x817002_1) := (blk_cell BK816.out 2).trans rfl; have hcz62_3 : w61.cell? ⟨gb816, 3, none⟩ = some (.slice Ao60 x817003_1.length co60) := (blk_cell BK816.out 3).trans rfl; have hfz62_0 := blk_frozen BK816.out 0; have hfz62_1 := blk_frozen BK816.out 1; have hfz62_2 := blk_frozen BK816.out 2; have hfz62_3 := blk_frozen BK816.out 3) | ((with_reducible refine gate_dst (N := 80) rfl ?_); (try (refine gate_guard (by rfl) ?_; dsimp only)); refine Kd.R_lit (Kd.int .u8) _ 5 ?hg (N := 80) ?hd (xs := ([45] : List Int)) (inner := [.int .u8 45]) (ok := fun _ => True) (okp := fun _ => True) ?hr ?hp (fun _ hk => hk) trivial (Below.refl _ _) (Nat.le_refl _) (by simp) ?_; (case hd => rfl); (case hg => rfl); (case hr => first | (go_simp; done) | (go_simp; rfl)); (case hp => exact (Reps.one (show Kd.M (Kd.int .u8) _ _ _ 45 [.int .u8 45] from rfl) (Reps.none _ _))); intro v821 w63 ho64 hb hg_ hnew_; clear hg_ hnew_; (first | rw [← Ny820.out] at ho64 | (simp only [Int.reduceToNat] at ho64; rw [← Ny820.out] at ho64)); have n0_ := Aside0.mk (Kd.R_below (by (with_reducible repeat (first | apply Kd.R_alloc | apply Kd.R_drewN | apply Kd.R_drew)); exact HO_817003.out) hb); have n1_ := Aside0.mk (Kd.R_lower ho64 (below_size (bh_ HB))); have n2_ := bb_ BK803 hb; have n3_ := bb_ BK816 hb; have n4_ := bs_ HB hb; clear HO_817003; clear BK803; clear BK816; clear HB; have HO_817003 := n0_; have HO822 := n1_; have BK803 := n2_; have BK816 := n3_; have HB := n4_; clear n0_ n1_ n2_ n3_ n4_; clear hb ho64; obtain ⟨Ao65, co65, eo65⟩ := Kd.R_slice HO822.out; subst eo65) | (go_at_call 31; (with_reducible refine (region_Count.calls k1 _ _ x817003_1 _ _ y820 t823 _ ?side1 ?side2 ?side3 ?side4 A54.out).mono ?_); (case side1 => repeat (first | exact (Kd.R_reads' HO_817003.out).2.2 | (with_reducible refine Kd.C_alloc ?_ _) | (with_reducible refine Kd.C_drewN ?_ _) | (with_reducible refine Kd.C_drew ?_))); (case side2 => exact (Kd.R_reads' HO_817003.out).2.1); (case side3 => repeat (first | exact (Kd.R_reads' HO822.out).2.2 | (with_reducible refine Kd.C_alloc ?_ _) | (with_reducible refine Kd.C_drewN ?_ _) | (with_reducible refine Kd.C_drew ?_))); (case side4 => exact (Kd.R_reads' HO822.out).2.1); rintro e w66 ⟨rfl, hb⟩; have n0_ := Aside0.mk (Kd.R_below (by (with_reducible repeat (first | apply Kd.R_alloc | apply Kd.R_drewN | apply Kd.R_drew)); exact HO_817003.out) hb); have n1_ := Aside0.mk (Kd.R_below (by (with_reducible repeat (first | apply Kd.R_alloc | apply Kd.R_drewN | apply Kd.R_drew)); exact HO822.out) hb); have n2_ := bb_ BK803 hb; have n3_ := bb_ BK816 hb; have n4_ := bs_ HB hb; clear HO_817003; clear HO822; clear BK803; clear BK816; clear HB; have HO_817003 := n0_; have HO822 := n1_; have BK803 := n2_; have BK816 := n3_; have HB := n4_; clear n0_ n1_ n2_ n3_ n4_; (try clear hb); (try clear hb2); (try clear hk); (try clear hi)) | (go_at_call 3; (with_reducible refine (salvorlaw18_PlanRuns.calls k1  t824 _ A56.out).mono ?_); rintro e w67 ⟨rfl, hb⟩; have n0_ := Aside0.mk (Kd.R_below (by (with_reducible repeat (first | apply Kd.R_alloc | apply Kd.R_drewN | apply Kd.R_drew)); exact HO_817003.out) hb); have n1_ := Aside0.mk (Kd.R_below (by (with_reducible repeat (first | apply Kd.R_alloc | apply Kd.R_drewN | apply Kd.R_drew)); exact HO822.out) hb); have n2_ := bb_ BK803 hb; have n3_ := bb_ BK816 hb; have n4_ := bs_ HB hb; clear HO_817003; clear HO822; clear BK803; clear BK816; clear HB; have HO_817003 := n0_; have HO822 := n1_; have BK803 := n2_; have BK816 := n3_; have HB := n4_; clear n0_ n1_ n2_ n3_ n4_; (try clear hb); (try clear hb2); (try clear hk); (try clear hi)))
              go_ret
              exact ⟨by first | rfl | (simp [errW_none, errW_some] <;> rfl) | (simp [*, errW_none, errW_some] <;> rfl), bh_ HB⟩
            · rw [if_neg c55] at H
              have c55b0 : (t823 == (wrap64 (a0))) = false := beq_eq_false_iff_ne.mpr c55
              have c55b1 : (t823 != (wrap64 (a0))) = true := bne_iff_ne.mpr c55
              exact absurd ((Option.some.inj H).trans HT.out) (by simp)
          · rw [if_neg c53] at H
            have c53b0 : (x817002_1 == 43) = false := beq_eq_false_iff_ne.mpr c53
            have c53b1 : (x817002_1 != 43) = true := bne_iff_ne.mpr c53
            exact absurd ((Option.some.inj H).trans HT.out) (by simp)
        · rw [if_neg c52] at H
          have c52b0 : (t817 == 0 && (t818 == 0 && (t819 == 0))) = false := by simpa using c52
          (try (have c52b1 : decide (t817 = 0 && (t818 == 0 && (t819 == 0))) = false := by simpa using c52))
          (try (have c52b2 : (t817 == 0 && (t818 == 0 && (t819 == 0))) = false := by simpa using c52))
          (try (have c52b3 : ¬ (t817 = 0 && (t818 == 0 && (t819 == 0))) := by simpa using c52))
          clear c52
          exact absurd ((Option.some.inj H).trans HT.out) (by simp)

end Go.Proofs.Ytnoilinjlelpaaa.P
