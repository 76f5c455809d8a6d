/- Laid by a program of this session's own (wip/wprint.py, over the kit's print.py): functions of the given program as plain Lean functions, and that the program's calls come to their answers. -/
import Derived.Test.YtnoilinjlelpaaaPx0
import Derived.Test.YtnoilinjlelpaaaPx37
namespace Go.Proofs.Ytnoilinjlelpaaa.P
open Go.RowKit Go.Proofs.YtnoilinjlelpaaaW.PrintWords Go.Proofs.YtnoilinjlelpaaaW.PrintLast Go.Proofs.YtnoilinjlelpaaaW.PrintMore
attribute [local go_sem] max2_int min2_int max_two min_two max_three min_three max_four min_four   -- for this text's walks alone
set_option linter.unusedVariables false
set_option linter.unusedSimpArgs false

/-! ### salvorlaw18_Map: function 21 -/
def salvorlaw18_Map.f (k : Nat) (a0 : Int) (l1 : List (S83)) (a2 : Int) (a3 : Int) : Option (Int × Int × Int × (List (S33))) := if (wrap64 ((wrap64 (a0)) + 1)) = 0 then (none) else ((salvorlaw16_Made.f k a0 l1).bind fun t581 => (some (Int.tmod (wrap64 (a2)) (wrap64 ((wrap64 (a0)) + 1)), wrap64 (Int.tmod a3 6), 63, t581)))
theorem salvorlaw18_Map.mono : ∀ a0 a1 a2 a3 k, LeO (salvorlaw18_Map.f k a0 a1 a2 a3) (salvorlaw18_Map.f (k + 1) a0 a1 a2 a3) := by
 intro a0 a1 a2 a3 k
 unfold salvorlaw18_Map.f
 repeat' first
   | (with_reducible exact salvorlaw16_Made.mono _ _ _)
   | (with_reducible exact LeO.refl _)
   | (with_reducible exact LeO.none _)
   | (with_reducible refine LeO.ite ?_ ?_)
   | (with_reducible refine LeO.bind ?_ (fun _ => ?_))
   | exact salvorlaw16_Made.mono _ _ _
   | exact LeO.none _
   | refine LeO.ite ?_ ?_
   | refine LeO.bind ?_ (fun _ => ?_)
def salvorlaw18_Map.T1 : Bool × List (List Nat × List Nat) := (true, [([], []), ([0], [0]), ([], []), ([2], [2]), ([3], [3]), ([1, 4], [1, 4]), ([], []), ([6], [6]), ([7], [7]), ([], []), ([], []), ([9, 10], [9, 10]), ([5, 8, 11], [5, 8, 11]), ([12, 11, 0, 1, 2, 3, 4, 5, 6, 7, 8, 9, 10, 11, 12], [12])])
def salvorlaw18_Map.B1 : List Nat := [0, 1, 0, 4, 12, 31, 0, 64, 192, 0, 0, 1536, 4095, 8191]
theorem salvorlaw18_Map.tab1 : rtab .any (opsOf Try.f21 1) = salvorlaw18_Map.T1 := by kernel_rfl
theorem salvorlaw18_Map.bits1 : waitsOk salvorlaw18_Map.T1.2 salvorlaw18_Map.B1 = true := by kernel_rfl
set_option maxHeartbeats 8000000 in
set_option maxRecDepth 100000 in
theorem salvorlaw18_Map.calls (k : Nat) (a0 : Int) (A1 : Option Addr) (c1 : Nat) (l1 : List (S83)) (a2 : Int) (a3 : Int) (r1 : Int) (r2 : Int) (r3 : Int) (r4 : List (S33)) (w : World) (hr1 : Kd.C k83 w A1 l1.length l1) (hc1 : l1.length ≤ c1) (h : salvorlaw18_Map.f k a0 l1 a2 a3 = some (r1, r2, r3, r4)) :
  Calls Try.prog 21 #[.int .u8 a0, .slice A1 l1.length c1, .int .u8 a2, .int .u8 a3] w fun e w' => ∃ v3_ : Value, e = .returned (.agg #[.int .i64 r1, .int .i64 r2, .int .u8 r3, v3_]) ∧ Kd.R k33 33 w' w.heap.size (fun _ => True) v3_ r4 ∧ Below w.heap.size w w' := by
 have hu26 := Try.underlying26
 have HR1 := Aside0.mk hr1
 have HC1 := Aside0.mk hc1
 clear hr1 hc1
 have HB := Aside0.mk (Below.refl w.heap.size w)
 have H : (if (wrap64 ((wrap64 (a0)) + 1)) = 0 then (none) else ((salvorlaw16_Made.f k a0 l1).bind fun t581 => (some (Int.tmod (wrap64 (a2)) (wrap64 ((wrap64 (a0)) + 1)), wrap64 (Int.tmod a3 6), 63, t581)))) = some (r1, r2, r3, r4) := h
 clear h
 by_cases c5 : (wrap64 ((wrap64 (a0)) + 1)) = 0
 ·rw [if_pos c5] at H
  exact absurd H (by simp)
 ·rw [if_neg c5] at H
  have c5b0 : ((wrap64 ((wrap64 (a0)) + 1)) == 0) = false := beq_eq_false_iff_ne.mpr c5
  have c5b1 : ((wrap64 ((wrap64 (a0)) + 1)) != 0) = true := bne_iff_ne.mpr c5
  replace H := Option.bind_eq_some_iff.mp H
  obtain ⟨t581, A60, H⟩ := H
  replace H : (some (Int.tmod (wrap64 (a2)) (wrap64 ((wrap64 (a0)) + 1)), wrap64 (Int.tmod a3 6), 63, t581)) = some (r1, r2, r3, r4) := H
  have A6 := Aside0.mk A60
  clear A60
  simp only [Option.some.injEq, Prod.mk.injEq] at H
  obtain ⟨rfl, rfl, rfl, rfl⟩ := H
  go_enter Try.func21, Try.ntmps21
  try go_wp2_with (first | ((with_reducible refine gate_dst (N := 8) rfl ?_); refine box_e 8 #[.int .i64 0, .int .i64 0, .int .u8 0, .slice none 0 0] 26 ?_; intro gb580 hg w7 hbox hb; have BK580 := Aside0.mk hbox; have GW580 := bg_ HB hg; have GE580 := bg_ HB hg; replace HB := bs_ HB hb; clear hb hbox hg))
  replace BK580 := Aside0.mk (blk_drew BK580.out)
  replace HB := Aside0.mk (below_drew1 HB.out)
  refine start_ (n := 14) (S := fun w' => True) (ds := []) #[false, false, false, false, false, false, false, false, false, false, false, false, false, false] (by kernel_rfl) rfl rfl trivial (fun hHeld => ?_); refine with_tabW salvorlaw18_Map.tab1 salvorlaw18_Map.bits1 (fun HT_ HW_ => ?_)
  generalize w7.drew = w8 at BK580 HB hHeld ⊢
  refine pu_ 0 9 (lb_ 14 1) rfl rfl (ao_ HT_) ?_
  refine pu_ 1 10 (lb_ 14 3) rfl rfl (ao_ HT_) ?_
  refine pu_ 2 11 (lb_ 14 7) rfl rfl (ao_ HT_) ?_
  refine pu_ 3 12 (lb_ 14 15) rfl rfl (ao_ HT_) ?_
  refine pu_ 4 13 (lb_ 14 31) rfl rfl (ao_ HT_) ?_
  refine pu_ 5 14 (lb_ 14 63) rfl rfl (ao_ HT_) ?_
  refine pu_ 6 15 (lb_ 14 127) rfl rfl (ao_ HT_) ?_
  refine pu_ 7 16 (lb_ 14 255) rfl rfl (ao_ HT_) ?_
  refine pu_ 8 17 (lb_ 14 511) rfl rfl (ao_ HT_) ?_
  refine pu_ 9 18 (lb_ 14 1023) rfl rfl (ao_ HT_) ?_
  refine pu_ 10 19 (lb_ 14 2047) rfl rfl (ao_ HT_) ?_
  refine one_ (i := 11) (N := some 20) #[true, true, true, true, true, true, true, true, true, true, true, true, false, false] rfl rfl (one_of HT_.out (by kernel_rfl)) (by decide) (fun K hK => ?_)
  refine gq_ Try.func48 (by kernel_rfl) rfl #[.int .u8 a0, .slice A1 l1.length c1] (by rfl) rfl rfl ?_
  with_reducible refine (salvorlaw16_Made.calls k a0 _ _ l1 t581 _ ?side1 ?side2 A6.out).mono ?_
  (case side1 => exact cb_ HR1 HB)
  (case side2 => exact HC1.out)
  rintro e w9 ⟨v582, rfl, ho0, hb⟩
  refine ⟨_, rfl, ?_⟩
  have HO583 := Aside0.mk (Kd.R_lower ho0 (below_size (bh_ HB)))
  replace BK580 := bb_ BK580 hb
  replace HB := bs_ HB hb
  (try clear hb)
  (try clear hb2)
  (try clear hk)
  (try clear hi)
  (try clear ho0)
  obtain ⟨Ao10, co10, eo10⟩ := Kd.R_slice HO583.out
  (first | subst eo10 | (injection eo10 with f1_ f2_ f3_; have f4_ := f1_.symm; have f5_ := f3_.symm; clear f1_ f2_ f3_; subst f4_; subst f5_))
  refine hK.out _ _ trivial (fun hHeld => ?_)
  clear hK K
  refine nm_ 20 ?_
  refine pu_ 12 21 (lb_ 14 8191) rfl rfl (ao_ HT_) ?_
  refine one_ (i := 13) (N := none) #[true, true, true, true, true, true, true, true, true, true, true, true, true, true] rfl rfl (one_of HT_.out (by kernel_rfl)) (by decide) (fun K hK => ?_)
  have hs11 : w9.cell? ⟨gb580, 0, none⟩ = some (.int .i64 0) := (blk_cell BK580.out 0).trans rfl
  have hfs11 := blk_frozen BK580.out 0
  have hs12 : w9.cell? ⟨gb580, 1, none⟩ = some (.int .i64 0) := (blk_cell BK580.out 1).trans rfl
  have hfs12 := blk_frozen BK580.out 1
  have hs13 : w9.cell? ⟨gb580, 2, none⟩ = some (.int .u8 0) := (blk_cell BK580.out 2).trans rfl
  have hfs13 := blk_frozen BK580.out 2
  have hs14 : w9.cell? ⟨gb580, 3, none⟩ = some (.slice none 0 0) := (blk_cell BK580.out 3).trans rfl
  have hfs14 := blk_frozen BK580.out 3
  refine skip_ (w1 := ?_) (by rfl) rfl ?_ ?_
  rotate_left
  ·go_simp
   rfl
  refine hK.out _ _ trivial (fun hHeld => ?_)
  clear hK K
  refine done_ (done_of HT_.out (by kernel_rfl)) ?_
  try go_wp2
  refine bodyPost_ret (results_cell_row rfl _ _ gb580 26 #[.int .i64 (Int.tmod (wrap64 (a2)) (wrap64 ((wrap64 (a0)) + 1))), .int .i64 (wrap64 (Int.tmod a3 6)), .int .u8 63, .slice Ao10 t581.length co10] (0, 0) _ rfl (bp_ BK580) Try.underlying26 rfl (by kernel_rfl)) rfl ?_
  exact ⟨_, by first | rfl | (simp [errW_none, errW_some] <;> rfl) | (simp [*, errW_none, errW_some] <;> rfl), by (with_reducible repeat (first | apply Kd.R_alloc | apply Kd.R_drewN | apply Kd.R_drew)); exact Kd.R_mono (Kd.R_far (p := ⟨gb580, 3, none⟩) (Kd.R_far (p := ⟨gb580, 2, none⟩) (Kd.R_far (p := ⟨gb580, 1, none⟩) (Kd.R_far (p := ⟨gb580, 0, none⟩) (Kd.R_types HO583.out BK580.out (by decide)) (fun _ hk => hk.2) (.int .i64 (Int.tmod (wrap64 (a2)) (wrap64 ((wrap64 (a0)) + 1))))) (fun _ hk => hk.2) (.int .i64 (wrap64 (Int.tmod a3 6)))) (fun _ hk => hk.2) (.int .u8 63)) (fun _ hk => hk.2) (.slice Ao10 t581.length co10)) (fun _ hk => trivial), bh_ HB⟩

/-! ### salvorlaw18_Opts: function 22 -/
def salvorlaw18_Opts.f (a0 : Int) (a1 : Int) (a2 : Bool) : Option (Int × Int × Bool) := some (wrap64 ((wrap64 (Int.tmod a0 6)) + 1), wrap64 (Int.tmod a1 5), a2)
set_option maxHeartbeats 8000000 in
set_option maxRecDepth 100000 in
theorem salvorlaw18_Opts.calls (a0 : Int) (a1 : Int) (a2 : Bool) (r1 : Int) (r2 : Int) (r3 : Bool) (w : World) (h : salvorlaw18_Opts.f a0 a1 a2 = some (r1, r2, r3)) :
    Calls Try.prog 22 #[.int .u8 a0, .int .u8 a1, .bool a2] w fun e w' => e = .returned (.agg #[.int .i64 r1, .int .i64 r2, .bool r3]) ∧ Below w.heap.size w w' := by
  have hu23 := Try.underlying23
  have HB := Aside0.mk (Below.refl w.heap.size w)
  have H : (some (wrap64 ((wrap64 (Int.tmod a0 6)) + 1), wrap64 (Int.tmod a1 5), a2)) = some (r1, r2, r3) := h
  clear h
  simp only [Option.some.injEq, Prod.mk.injEq] at H
  obtain ⟨rfl, rfl, rfl⟩ := H
  go_enter Try.func22, Try.ntmps22
  go_wp2_with (first | ((with_reducible refine gate_dst (N := 6) rfl ?_); refine box_e 6 #[.int .i64 0, .int .i64 0, .bool false] 23 ?_; intro gb584 hg w4 hbox hb; have BK584 := Aside0.mk hbox; have GW584 := bg_ HB hg; have GE584 := bg_ HB hg; replace HB := bs_ HB hb; clear hb hbox hg; obtain ⟨hcz5_0, hcz5_1, hcz5_2, hfz5_0, hfz5_1, hfz5_2⟩ := c3_ BK584))
  refine bodyPost_ret (results_cell_row rfl _ _ gb584 23 #[.int .i64 (wrap64 ((wrap64 (Int.tmod a0 6)) + 1)), .int .i64 (wrap64 (Int.tmod a1 5)), .bool a2] (0, 0) _ rfl (bp_ BK584) Try.underlying23 rfl (by kernel_rfl)) rfl ?_
  exact ⟨by first | rfl | (simp [errW_none, errW_some] <;> rfl) | (simp [*, errW_none, errW_some] <;> rfl), bh_ HB⟩

end Go.Proofs.Ytnoilinjlelpaaa.P
