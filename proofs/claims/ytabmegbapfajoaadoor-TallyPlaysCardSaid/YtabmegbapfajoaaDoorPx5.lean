/- Laid by a program of this session's own (wip/wprint.py, over the kit's print.py): functions of the given program as plain Lean functions, and that the program's calls come to their answers. -/
import Derived.Test.YtabmegbapfajoaaDoorPx0
import Derived.Test.YtabmegbapfajoaaDoorPx4
namespace Go.Proofs.YtabmegbapfajoaaDoor.P
open Go.RowKit Go.Proofs.YtabmegbapfajoaaDoorW.PrintWords Go.Proofs.YtabmegbapfajoaaDoorW.PrintLast Go.Proofs.YtabmegbapfajoaaDoorW.PrintMore
attribute [local go_sem] max2_int min2_int max_two min_two max_three min_three max_four min_four   -- for this text's walks alone
set_option linter.unusedVariables false
set_option linter.unusedSimpArgs false

/-! ### tally_Text: function 10 -/
def tally_Text.f (a0_0 : Int) (a0_1 : Int) (a0_2 : Int) (a0_3 : Int) (a0_4 : Int) : Option (ByteArray) := (tally_records.f a0_0 a0_1 (⟨#[105, 110]⟩ : ByteArray)).bind fun t124 => ((tally_records.f a0_2 a0_3 (⟨#[111, 117, 116]⟩ : ByteArray)).bind fun t125 => (if t124.size + t125.size ≤ 9223372036854775807 then (if a0_4 = 0 then (some (t124 ++ t125)) else (if a0_4 = 1 then (if (t124 ++ t125).size + 19 ≤ 9223372036854775807 then (some ((t124 ++ t125) ++ (⟨#[49, 32, 116, 114, 117, 110, 99, 97, 116, 101, 100, 32, 114, 101, 99, 111, 114, 100, 10]⟩ : ByteArray))) else (none)) else ((num_Dec.f a0_4).bind fun t126 => (if (t124 ++ t125).size + t126.size ≤ 9223372036854775807 then (if ((t124 ++ t125) ++ t126).size + 19 ≤ 9223372036854775807 then (some (((t124 ++ t125) ++ t126) ++ (⟨#[32, 116, 114, 117, 110, 99, 97, 116, 101, 100, 32, 114, 101, 99, 111, 114, 100, 115, 10]⟩ : ByteArray))) else (none)) else (none))))) else (none)))
def tally_Text.T1 : Bool × List (List Nat × List Nat) := (true, [([], []), ([0], [0]), ([], []), ([2], [2]), ([1, 3], [1, 3]), ([], []), ([5], [5]), ([], []), ([7], [7]), ([6, 8, 4], [6, 8]), ([4, 9], [4, 9]), ([10, 9, 0, 1, 2, 3, 4, 5, 6, 7, 8, 9, 10], [10])])
def tally_Text.B1 : List Nat := [0, 1, 0, 4, 15, 0, 32, 0, 128, 511, 1023, 2047]
theorem tally_Text.tab1 : rtab .any (opsOf Tryd.f10 1) = tally_Text.T1 := by kernel_rfl
theorem tally_Text.bits1 : waitsOk tally_Text.T1.2 tally_Text.B1 = true := by kernel_rfl
set_option maxHeartbeats 8000000 in
set_option maxRecDepth 100000 in
theorem tally_Text.calls (a0_0 : Int) (a0_1 : Int) (a0_2 : Int) (a0_3 : Int) (a0_4 : Int) (r : ByteArray) (w : World) (h : tally_Text.f a0_0 a0_1 a0_2 a0_3 a0_4 = some r) (htab : TabAt w) :
    Calls Tryd.prog 10 #[.agg #[.int .i64 a0_0, .int .i64 a0_1, .int .i64 a0_2, .int .i64 a0_3, .int .i64 a0_4]] w fun e w' => e = .returned (.string r) ∧ Below w.heap.size w w' := by
  have HTAB := Aside0.mk htab
  clear htab
  have hu23 := Tryd.underlying23
  have HB := Aside0.mk (Below.refl w.heap.size w)
  have H : ((tally_records.f a0_0 a0_1 (⟨#[105, 110]⟩ : ByteArray)).bind fun t124 => ((tally_records.f a0_2 a0_3 (⟨#[111, 117, 116]⟩ : ByteArray)).bind fun t125 => (if t124.size + t125.size ≤ 9223372036854775807 then (if a0_4 = 0 then (some (t124 ++ t125)) else (if a0_4 = 1 then (if (t124 ++ t125).size + 19 ≤ 9223372036854775807 then (some ((t124 ++ t125) ++ (⟨#[49, 32, 116, 114, 117, 110, 99, 97, 116, 101, 100, 32, 114, 101, 99, 111, 114, 100, 10]⟩ : ByteArray))) else (none)) else ((num_Dec.f a0_4).bind fun t126 => (if (t124 ++ t125).size + t126.size ≤ 9223372036854775807 then (if ((t124 ++ t125) ++ t126).size + 19 ≤ 9223372036854775807 then (some (((t124 ++ t125) ++ t126) ++ (⟨#[32, 116, 114, 117, 110, 99, 97, 116, 101, 100, 32, 114, 101, 99, 111, 114, 100, 115, 10]⟩ : ByteArray))) else (none)) else (none))))) else (none)))) = some r := h
  clear h
  replace H := Option.bind_eq_some_iff.mp H
  obtain ⟨t124, A20, H⟩ := H
  replace H : ((tally_records.f a0_2 a0_3 (⟨#[111, 117, 116]⟩ : ByteArray)).bind fun t125 => (if t124.size + t125.size ≤ 9223372036854775807 then (if a0_4 = 0 then (some (t124 ++ t125)) else (if a0_4 = 1 then (if (t124 ++ t125).size + 19 ≤ 9223372036854775807 then (some ((t124 ++ t125) ++ (⟨#[49, 32, 116, 114, 117, 110, 99, 97, 116, 101, 100, 32, 114, 101, 99, 111, 114, 100, 10]⟩ : ByteArray))) else (none)) else ((num_Dec.f a0_4).bind fun t126 => (if (t124 ++ t125).size + t126.size ≤ 9223372036854775807 then (if ((t124 ++ t125) ++ t126).size + 19 ≤ 9223372036854775807 then (some (((t124 ++ t125) ++ t126) ++ (⟨#[32, 116, 114, 117, 110, 99, 97, 116, 101, 100, 32, 114, 101, 99, 111, 114, 100, 115, 10]⟩ : ByteArray))) else (none)) else (none))))) else (none))) = some r := H
  have A2 := Aside0.mk A20
  clear A20
  replace H := Option.bind_eq_some_iff.mp H
  obtain ⟨t125, A30, H⟩ := H
  replace H : (if t124.size + t125.size ≤ 9223372036854775807 then (if a0_4 = 0 then (some (t124 ++ t125)) else (if a0_4 = 1 then (if (t124 ++ t125).size + 19 ≤ 9223372036854775807 then (some ((t124 ++ t125) ++ (⟨#[49, 32, 116, 114, 117, 110, 99, 97, 116, 101, 100, 32, 114, 101, 99, 111, 114, 100, 10]⟩ : ByteArray))) else (none)) else ((num_Dec.f a0_4).bind fun t126 => (if (t124 ++ t125).size + t126.size ≤ 9223372036854775807 then (if ((t124 ++ t125) ++ t126).size + 19 ≤ 9223372036854775807 then (some (((t124 ++ t125) ++ t126) ++ (⟨#[32, 116, 114, 117, 110, 99, 97, 116, 101, 100, 32, 114, 101, 99, 111, 114, 100, 115, 10]⟩ : ByteArray))) else (none)) else (none))))) else (none)) = some r := H
  have A3 := Aside0.mk A30
  clear A30
  by_cases c4 : t124.size + t125.size ≤ 9223372036854775807
  · rw [if_pos c4] at H
    have c4b0 := eq_true c4
    have c4b1 : decide (t124.size + t125.size ≤ 9223372036854775807) = true := decide_eq_true c4
    try have c4b2 : (9223372036854775807 < t124.size + t125.size) = False := eq_false (Nat.not_lt.2 c4)
    by_cases c5 : a0_4 = 0
    · rw [if_pos c5] at H
      have c5b0 : (a0_4 == 0) = true := beq_iff_eq.mpr c5
      have c5b1 : (a0_4 != 0) = false := bne_eq_false_iff_eq.mpr c5
      clear c5
      obtain rfl := Option.some.inj H
      go_enter Tryd.func10, Tryd.ntmps10
      try go_wp2_with (first | ((with_reducible refine gate_dst (N := 1) rfl ?_); refine box_e 1 #[.int .i64 a0_0, .int .i64 a0_1, .int .i64 a0_2, .int .i64 a0_3, .int .i64 a0_4] 23 ?_; intro gb123 hg w6 hbox hb; have BK123 := Aside0.mk hbox; have GW123 := bg_ HB hg; have GE123 := bg_ HB hg; replace HB := bs_ HB hb; clear hb hbox hg))
      replace BK123 := Aside0.mk (blk_drew BK123.out)
      replace HB := Aside0.mk (below_drew1 HB.out)
      refine start_ (n := 12) (S := fun w' => w'.cell? ⟨gb123, 0, none⟩ = some (.int .i64 a0_0) ∧ w'.cell? ⟨gb123, 1, none⟩ = some (.int .i64 a0_1) ∧ w'.cell? ⟨gb123, 2, none⟩ = some (.int .i64 a0_2) ∧ w'.cell? ⟨gb123, 3, none⟩ = some (.int .i64 a0_3) ∧ w'.cell? ⟨gb123, 4, none⟩ = some (.int .i64 a0_4)) (ds := []) #[false, false, false, false, false, false, false, false, false, false, false, false] (by kernel_rfl) rfl rfl ⟨(blk_cell BK123.out 0).trans rfl, (blk_cell BK123.out 1).trans rfl, (blk_cell BK123.out 2).trans rfl, (blk_cell BK123.out 3).trans rfl, (blk_cell BK123.out 4).trans rfl⟩ (fun hHeld => ?_); refine with_tabW tally_Text.tab1 tally_Text.bits1 (fun HT_ HW_ => ?_)
      generalize w6.drew = w7 at BK123 HB hHeld ⊢
      refine pu_ 0 4 (lb_ 12 1) rfl rfl (any_of HT_.out (by kernel_rfl)) ?_
      refine pu_ 2 6 (lb_ 12 5) rfl rfl (any_of HT_.out (by kernel_rfl)) ?_
      refine pu_ 5 9 (lb_ 12 37) rfl rfl (any_of HT_.out (by kernel_rfl)) ?_
      refine pu_ 7 11 (lb_ 12 165) rfl rfl (any_of HT_.out (by kernel_rfl)) ?_
      refine take_ (i := 1) (N := some 5) (v := ?_) (a' := ?_) #[true, true, true, false, false, true, false, true, false, false, false, false] rfl rfl (take_ofW HT_.out HW_.out (by kernel_rfl)) (fun _ _ _ h => h) (Or.inl ⟨by rfl, ?_⟩) hHeld ?_ ?_
      rotate_left
      · rintro w' ⟨s0, s1, s2, s3, s4⟩
        go_simp
        with_reducible rfl
      rotate_left
      · simp only [Act.put, List.setIfInBounds_toArray, List.set_cons_zero, List.set_cons_succ, i64_w, i32_w]
        rfl
      refine take_ (i := 3) (N := some 7) (v := ?_) (a' := ?_) #[true, true, true, true, false, true, false, true, false, false, false, false] rfl rfl (take_ofW HT_.out HW_.out (by kernel_rfl)) (fun _ _ _ h => h) (Or.inl ⟨by rfl, ?_⟩) hHeld ?_ ?_
      rotate_left
      · rintro w' ⟨s0, s1, s2, s3, s4⟩
        go_simp
        with_reducible rfl
      rotate_left
      · simp only [Act.put, List.setIfInBounds_toArray, List.set_cons_zero, List.set_cons_succ, i64_w, i32_w]
        rfl
      refine take_ (i := 6) (N := some 10) (v := ?_) (a' := ?_) #[true, true, true, true, false, true, true, true, false, false, false, false] rfl rfl (take_ofW HT_.out HW_.out (by kernel_rfl)) (fun _ _ _ h => h) (Or.inl ⟨by rfl, ?_⟩) hHeld ?_ ?_
      rotate_left
      · rintro w' ⟨s0, s1, s2, s3, s4⟩
        go_simp
        with_reducible rfl
      rotate_left
      · simp only [Act.put, List.setIfInBounds_toArray, List.set_cons_zero, List.set_cons_succ, i64_w, i32_w]
        rfl
      refine take_ (i := 8) (N := some 12) (v := ?_) (a' := ?_) #[true, true, true, true, false, true, true, true, true, false, false, false] rfl rfl (take_ofW HT_.out HW_.out (by kernel_rfl)) (fun _ _ _ h => h) (Or.inl ⟨by rfl, ?_⟩) hHeld ?_ ?_
      rotate_left
      · rintro w' ⟨s0, s1, s2, s3, s4⟩
        go_simp
        with_reducible rfl
      rotate_left
      · simp only [Act.put, List.setIfInBounds_toArray, List.set_cons_zero, List.set_cons_succ, i64_w, i32_w]
        rfl
      refine one_ (i := 4) (N := some 8) #[true, true, true, true, true, true, true, true, true, false, false, false] rfl rfl (one_of HT_.out (by kernel_rfl)) (by decide) (fun K hK => ?_)
      refine gq_ Tryd.func14 (by kernel_rfl) rfl #[.int .i64 a0_0, .int .i64 a0_1, .string (⟨#[105, 110]⟩ : ByteArray)] (by rfl) rfl rfl ?_
      with_reducible refine (tally_records.calls a0_0 a0_1 (⟨#[105, 110]⟩ : ByteArray) t124 _ A2.out ?tb0_).mono ?_
      (case tb0_ => exact tb_ HTAB HB)
      rintro e w8 ⟨rfl, hb⟩
      refine ⟨_, rfl, ?_⟩
      replace BK123 := bb_ BK123 hb
      replace HB := bs_ HB hb
      (try clear hb)
      (try clear hb2)
      (try clear hk)
      (try clear hi)
      refine hK.out _ _ ⟨(blk_cell BK123.out 0).trans rfl, (blk_cell BK123.out 1).trans rfl, (blk_cell BK123.out 2).trans rfl, (blk_cell BK123.out 3).trans rfl, (blk_cell BK123.out 4).trans rfl⟩ (fun hHeld => ?_)
      clear hK K
      refine norm_ (a' := ?_) ?_ ?_
      rotate_left
      · show Act.put _ (some 8) _ = _
        simp only [Act.put, List.setIfInBounds_toArray, List.set_cons_zero, List.set_cons_succ, i64_w, i32_w]
        rfl
      refine one_ (i := 9) (N := some 13) #[true, true, true, true, true, true, true, true, true, true, false, false] rfl rfl (one_of HT_.out (by kernel_rfl)) (by decide) (fun K hK => ?_)
      refine gq_ Tryd.func14 (by kernel_rfl) rfl #[.int .i64 a0_2, .int .i64 a0_3, .string (⟨#[111, 117, 116]⟩ : ByteArray)] (by rfl) rfl rfl ?_
      with_reducible refine (tally_records.calls a0_2 a0_3 (⟨#[111, 117, 116]⟩ : ByteArray) t125 _ A3.out ?tb2_).mono ?_
      (case tb2_ => exact tb_ HTAB HB)
      rintro e w9 ⟨rfl, hb⟩
      refine ⟨_, rfl, ?_⟩
      replace BK123 := bb_ BK123 hb
      replace HB := bs_ HB hb
      (try clear hb)
      (try clear hb2)
      (try clear hk)
      (try clear hi)
      refine hK.out _ _ ⟨(blk_cell BK123.out 0).trans rfl, (blk_cell BK123.out 1).trans rfl, (blk_cell BK123.out 2).trans rfl, (blk_cell BK123.out 3).trans rfl, (blk_cell BK123.out 4).trans rfl⟩ (fun hHeld => ?_)
      clear hK K
      refine norm_ (a' := ?_) ?_ ?_
      rotate_left
      · show Act.put _ (some 13) _ = _
        simp only [Act.put, List.setIfInBounds_toArray, List.set_cons_zero, List.set_cons_succ, i64_w, i32_w]
        rfl
      refine pu_ 10 14 (lb_ 12 2047) rfl rfl (any_of HT_.out (by kernel_rfl)) ?_
      refine pu_ 11 3 (lb_ 12 4095) rfl rfl (any_of HT_.out (by kernel_rfl)) ?_
      refine done_ (done_of HT_.out (by kernel_rfl)) ?_
      have hcz10_0 : w9.cell? ⟨gb123, 0, none⟩ = some (.int .i64 a0_0) := (blk_cell BK123.out 0).trans rfl
      have hcz10_1 : w9.cell? ⟨gb123, 1, none⟩ = some (.int .i64 a0_1) := (blk_cell BK123.out 1).trans rfl
      have hcz10_2 : w9.cell? ⟨gb123, 2, none⟩ = some (.int .i64 a0_2) := (blk_cell BK123.out 2).trans rfl
      have hcz10_3 : w9.cell? ⟨gb123, 3, none⟩ = some (.int .i64 a0_3) := (blk_cell BK123.out 3).trans rfl
      have hcz10_4 : w9.cell? ⟨gb123, 4, none⟩ = some (.int .i64 a0_4) := (blk_cell BK123.out 4).trans rfl
      have hfz10_0 := blk_frozen BK123.out 0
      have hfz10_1 := blk_frozen BK123.out 1
      have hfz10_2 := blk_frozen BK123.out 2
      have hfz10_3 := blk_frozen BK123.out 3
      have hfz10_4 := blk_frozen BK123.out 4
      try go_wp2
      go_ret
      exact ⟨by first | rfl | (simp [errW_none, errW_some] <;> rfl) | (simp [*, errW_none, errW_some] <;> rfl), bh_ HB⟩
    · rw [if_neg c5] at H
      have c5b0 : (a0_4 == 0) = false := beq_eq_false_iff_ne.mpr c5
      have c5b1 : (a0_4 != 0) = true := bne_iff_ne.mpr c5
      by_cases c11 : a0_4 = 1
      · rw [if_pos c11] at H
        have c11b0 : (a0_4 == 1) = true := beq_iff_eq.mpr c11
        have c11b1 : (a0_4 != 1) = false := bne_eq_false_iff_eq.mpr c11
        clear c11
        by_cases c12 : (t124 ++ t125).size + 19 ≤ 9223372036854775807
        · rw [if_pos c12] at H
          have c12b0 := eq_true c12
          have c12b1 : decide ((t124 ++ t125).size + 19 ≤ 9223372036854775807) = true := decide_eq_true c12
          try have c12b2 : (9223372036854775807 < (t124 ++ t125).size + 19) = False := eq_false (Nat.not_lt.2 c12)
          try have c12b3 : (9223372036854775807 < t124.size + t125.size + 19) = False := eq_false (Nat.not_lt.2 (by have h_ := c12; simp only [ByteArray.size_append] at h_; exact h_))
          obtain rfl := Option.some.inj H
          go_enter Tryd.func10, Tryd.ntmps10
          try go_wp2_with (first | ((with_reducible refine gate_dst (N := 1) rfl ?_); refine box_e 1 #[.int .i64 a0_0, .int .i64 a0_1, .int .i64 a0_2, .int .i64 a0_3, .int .i64 a0_4] 23 ?_; intro gb123 hg w13 hbox hb; have BK123 := Aside0.mk hbox; have GW123 := bg_ HB hg; have GE123 := bg_ HB hg; replace HB := bs_ HB hb; clear hb hbox hg))
          replace BK123 := Aside0.mk (blk_drew BK123.out)
          replace HB := Aside0.mk (below_drew1 HB.out)
          refine start_ (n := 12) (S := fun w' => w'.cell? ⟨gb123, 0, none⟩ = some (.int .i64 a0_0) ∧ w'.cell? ⟨gb123, 1, none⟩ = some (.int .i64 a0_1) ∧ w'.cell? ⟨gb123, 2, none⟩ = some (.int .i64 a0_2) ∧ w'.cell? ⟨gb123, 3, none⟩ = some (.int .i64 a0_3) ∧ w'.cell? ⟨gb123, 4, none⟩ = some (.int .i64 a0_4)) (ds := []) #[false, false, false, false, false, false, false, false, false, false, false, false] (by kernel_rfl) rfl rfl ⟨(blk_cell BK123.out 0).trans rfl, (blk_cell BK123.out 1).trans rfl, (blk_cell BK123.out 2).trans rfl, (blk_cell BK123.out 3).trans rfl, (blk_cell BK123.out 4).trans rfl⟩ (fun hHeld => ?_); refine with_tabW tally_Text.tab1 tally_Text.bits1 (fun HT_ HW_ => ?_)
          generalize w13.drew = w14 at BK123 HB hHeld ⊢
          refine pu_ 0 4 (lb_ 12 1) rfl rfl (any_of HT_.out (by kernel_rfl)) ?_
          refine pu_ 2 6 (lb_ 12 5) rfl rfl (any_of HT_.out (by kernel_rfl)) ?_
          refine pu_ 5 9 (lb_ 12 37) rfl rfl (any_of HT_.out (by kernel_rfl)) ?_
          refine pu_ 7 11 (lb_ 12 165) rfl rfl (any_of HT_.out (by kernel_rfl)) ?_
          refine take_ (i := 1) (N := some 5) (v := ?_) (a' := ?_) #[true, true, true, false, false, true, false, true, false, false, false, false] rfl rfl (take_ofW HT_.out HW_.out (by kernel_rfl)) (fun _ _ _ h => h) (Or.inl ⟨by rfl, ?_⟩) hHeld ?_ ?_
          rotate_left
          · rintro w' ⟨s0, s1, s2, s3, s4⟩
            go_simp
            with_reducible rfl
          rotate_left
          · simp only [Act.put, List.setIfInBounds_toArray, List.set_cons_zero, List.set_cons_succ, i64_w, i32_w]
            rfl
          refine take_ (i := 3) (N := some 7) (v := ?_) (a' := ?_) #[true, true, true, true, false, true, false, true, false, false, false, false] rfl rfl (take_ofW HT_.out HW_.out (by kernel_rfl)) (fun _ _ _ h => h) (Or.inl ⟨by rfl, ?_⟩) hHeld ?_ ?_
          rotate_left
          · rintro w' ⟨s0, s1, s2, s3, s4⟩
            go_simp
            with_reducible rfl
          rotate_left
          · simp only [Act.put, List.setIfInBounds_toArray, List.set_cons_zero, List.set_cons_succ, i64_w, i32_w]
            rfl
          refine take_ (i := 6) (N := some 10) (v := ?_) (a' := ?_) #[true, true, true, true, false, true, true, true, false, false, false, false] rfl rfl (take_ofW HT_.out HW_.out (by kernel_rfl)) (fun _ _ _ h => h) (Or.inl ⟨by rfl, ?_⟩) hHeld ?_ ?_
          rotate_left
          · rintro w' ⟨s0, s1, s2, s3, s4⟩
            go_simp
            with_reducible rfl
          rotate_left
          · simp only [Act.put, List.setIfInBounds_toArray, List.set_cons_zero, List.set_cons_succ, i64_w, i32_w]
            rfl
          refine take_ (i := 8) (N := some 12) (v := ?_) (a' := ?_) #[true, true, true, true, false, true, true, true, true, false, false, false] rfl rfl (take_ofW HT_.out HW_.out (by kernel_rfl)) (fun _ _ _ h => h) (Or.inl ⟨by rfl, ?_⟩) hHeld ?_ ?_
          rotate_left
          · rintro w' ⟨s0, s1, s2, s3, s4⟩
            go_simp
            with_reducible rfl
          rotate_left
          · simp only [Act.put, List.setIfInBounds_toArray, List.set_cons_zero, List.set_cons_succ, i64_w, i32_w]
            rfl
          refine one_ (i := 4) (N := some 8) #[true, true, true, true, true, true, true, true, true, false, false, false] rfl rfl (one_of HT_.out (by kernel_rfl)) (by decide) (fun K hK => ?_)
          refine gq_ Tryd.func14 (by kernel_rfl) rfl #[.int .i64 a0_0, .int .i64 a0_1, .string (⟨#[105, 110]⟩ : ByteArray)] (by rfl) rfl rfl ?_
          with_reducible refine (tally_records.calls a0_0 a0_1 (⟨#[105, 110]⟩ : ByteArray) t124 _ A2.out ?tb4_).mono ?_
          (case tb4_ => exact tb_ HTAB HB)
          rintro e w15 ⟨rfl, hb⟩
          refine ⟨_, rfl, ?_⟩
          replace BK123 := bb_ BK123 hb
          replace HB := bs_ HB hb
          (try clear hb)
          (try clear hb2)
          (try clear hk)
          (try clear hi)
          refine hK.out _ _ ⟨(blk_cell BK123.out 0).trans rfl, (blk_cell BK123.out 1).trans rfl, (blk_cell BK123.out 2).trans rfl, (blk_cell BK123.out 3).trans rfl, (blk_cell BK123.out 4).trans rfl⟩ (fun hHeld => ?_)
          clear hK K
          refine norm_ (a' := ?_) ?_ ?_
          rotate_left
          · show Act.put _ (some 8) _ = _
            simp only [Act.put, List.setIfInBounds_toArray, List.set_cons_zero, List.set_cons_succ, i64_w, i32_w]
            rfl
          refine one_ (i := 9) (N := some 13) #[true, true, true, true, true, true, true, true, true, true, false, false] rfl rfl (one_of HT_.out (by kernel_rfl)) (by decide) (fun K hK => ?_)
          refine gq_ Tryd.func14 (by kernel_rfl) rfl #[.int .i64 a0_2, .int .i64 a0_3, .string (⟨#[111, 117, 116]⟩ : ByteArray)] (by rfl) rfl rfl ?_
          with_reducible refine (tally_records.calls a0_2 a0_3 (⟨#[111, 117, 116]⟩ : ByteArray) t125 _ A3.out ?tb6_).mono ?_
          (case tb6_ => exact tb_ HTAB HB)
          rintro e w16 ⟨rfl, hb⟩
          refine ⟨_, rfl, ?_⟩
          replace BK123 := bb_ BK123 hb
          replace HB := bs_ HB hb
          (try clear hb)
          (try clear hb2)
          (try clear hk)
          (try clear hi)
          refine hK.out _ _ ⟨(blk_cell BK123.out 0).trans rfl, (blk_cell BK123.out 1).trans rfl, (blk_cell BK123.out 2).trans rfl, (blk_cell BK123.out 3).trans rfl, (blk_cell BK123.out 4).trans rfl⟩ (fun hHeld => ?_)
          clear hK K
          refine norm_ (a' := ?_) ?_ ?_
          rotate_left
          · show Act.put _ (some 13) _ = _
            simp only [Act.put, List.setIfInBounds_toArray, List.set_cons_zero, List.set_cons_succ, i64_w, i32_w]
            rfl
          refine pu_ 10 14 (lb_ 12 2047) rfl rfl (any_of HT_.out (by kernel_rfl)) ?_
          refine pu_ 11 3 (lb_ 12 4095) rfl rfl (any_of HT_.out (by kernel_rfl)) ?_
          refine done_ (done_of HT_.out (by kernel_rfl)) ?_
          have hcz17_0 : w16.cell? ⟨gb123, 0, none⟩ = some (.int .i64 a0_0) := (blk_cell BK123.out 0).trans rfl
          have hcz17_1 : w16.cell? ⟨gb123, 1, none⟩ = some (.int .i64 a0_1) := (blk_cell BK123.out 1).trans rfl
          have hcz17_2 : w16.cell? ⟨gb123, 2, none⟩ = some (.int .i64 a0_2) := (blk_cell BK123.out 2).trans rfl
          have hcz17_3 : w16.cell? ⟨gb123, 3, none⟩ = some (.int .i64 a0_3) := (blk_cell BK123.out 3).trans rfl
          have hcz17_4 : w16.cell? ⟨gb123, 4, none⟩ = some (.int .i64 a0_4) := (blk_cell BK123.out 4).trans rfl
          have hfz17_0 := blk_frozen BK123.out 0
          have hfz17_1 := blk_frozen BK123.out 1
          have hfz17_2 := blk_frozen BK123.out 2
          have hfz17_3 := blk_frozen BK123.out 3
          have hfz17_4 := blk_frozen BK123.out 4
          try go_wp2
          go_ret
          exact ⟨by first | rfl | (simp [errW_none, errW_some] <;> rfl) | (simp [*, errW_none, errW_some] <;> rfl), bh_ HB⟩
        · rw [if_neg c12] at H
          exact absurd H (by simp)
      · rw [if_neg c11] at H
        have c11b0 : (a0_4 == 1) = false := beq_eq_false_iff_ne.mpr c11
        have c11b1 : (a0_4 != 1) = true := bne_iff_ne.mpr c11
        replace H := Option.bind_eq_some_iff.mp H
        obtain ⟨t126, A180, H⟩ := H
        replace H : (if (t124 ++ t125).size + t126.size ≤ 9223372036854775807 then (if ((t124 ++ t125) ++ t126).size + 19 ≤ 9223372036854775807 then (some (((t124 ++ t125) ++ t126) ++ (⟨#[32, 116, 114, 117, 110, 99, 97, 116, 101, 100, 32, 114, 101, 99, 111, 114, 100, 115, 10]⟩ : ByteArray))) else (none)) else (none)) = some r := H
        have A18 := Aside0.mk A180
        clear A180
        by_cases c19 : (t124 ++ t125).size + t126.size ≤ 9223372036854775807
        · rw [if_pos c19] at H
          have c19b0 := eq_true c19
          have c19b1 : decide ((t124 ++ t125).size + t126.size ≤ 9223372036854775807) = true := decide_eq_true c19
          try have c19b2 : (9223372036854775807 < (t124 ++ t125).size + t126.size) = False := eq_false (Nat.not_lt.2 c19)
          try have c19b3 : (9223372036854775807 < t124.size + t125.size + t126.size) = False := eq_false (Nat.not_lt.2 (by have h_ := c19; simp only [ByteArray.size_append] at h_; exact h_))
          by_cases c20 : ((t124 ++ t125) ++ t126).size + 19 ≤ 9223372036854775807
          · rw [if_pos c20] at H
            have c20b0 := eq_true c20
            have c20b1 : decide (((t124 ++ t125) ++ t126).size + 19 ≤ 9223372036854775807) = true := decide_eq_true c20
            try have c20b2 : (9223372036854775807 < ((t124 ++ t125) ++ t126).size + 19) = False := eq_false (Nat.not_lt.2 c20)
            try have c20b3 : (9223372036854775807 < t124.size + t125.size + t126.size + 19) = False := eq_false (Nat.not_lt.2 (by have h_ := c20; simp only [ByteArray.size_append] at h_; exact h_))
            obtain rfl := Option.some.inj H
            go_enter Tryd.func10, Tryd.ntmps10
            try go_wp2_with (first | ((with_reducible refine gate_dst (N := 1) rfl ?_); refine box_e 1 #[.int .i64 a0_0, .int .i64 a0_1, .int .i64 a0_2, .int .i64 a0_3, .int .i64 a0_4] 23 ?_; intro gb123 hg w21 hbox hb; have BK123 := Aside0.mk hbox; have GW123 := bg_ HB hg; have GE123 := bg_ HB hg; replace HB := bs_ HB hb; clear hb hbox hg))
            replace BK123 := Aside0.mk (blk_drew BK123.out)
            replace HB := Aside0.mk (below_drew1 HB.out)
            refine start_ (n := 12) (S := fun w' => w'.cell? ⟨gb123, 0, none⟩ = some (.int .i64 a0_0) ∧ w'.cell? ⟨gb123, 1, none⟩ = some (.int .i64 a0_1) ∧ w'.cell? ⟨gb123, 2, none⟩ = some (.int .i64 a0_2) ∧ w'.cell? ⟨gb123, 3, none⟩ = some (.int .i64 a0_3) ∧ w'.cell? ⟨gb123, 4, none⟩ = some (.int .i64 a0_4)) (ds := []) #[false, false, false, false, false, false, false, false, false, false, false, false] (by kernel_rfl) rfl rfl ⟨(blk_cell BK123.out 0).trans rfl, (blk_cell BK123.out 1).trans rfl, (blk_cell BK123.out 2).trans rfl, (blk_cell BK123.out 3).trans rfl, (blk_cell BK123.out 4).trans rfl⟩ (fun hHeld => ?_); refine with_tabW tally_Text.tab1 tally_Text.bits1 (fun HT_ HW_ => ?_)
            generalize w21.drew = w22 at BK123 HB hHeld ⊢
            refine pu_ 0 4 (lb_ 12 1) rfl rfl (any_of HT_.out (by kernel_rfl)) ?_
            refine pu_ 2 6 (lb_ 12 5) rfl rfl (any_of HT_.out (by kernel_rfl)) ?_
            refine pu_ 5 9 (lb_ 12 37) rfl rfl (any_of HT_.out (by kernel_rfl)) ?_
            refine pu_ 7 11 (lb_ 12 165) rfl rfl (any_of HT_.out (by kernel_rfl)) ?_
            refine take_ (i := 1) (N := some 5) (v := ?_) (a' := ?_) #[true, true, true, false, false, true, false, true, false, false, false, false] rfl rfl (take_ofW HT_.out HW_.out (by kernel_rfl)) (fun _ _ _ h => h) (Or.inl ⟨by rfl, ?_⟩) hHeld ?_ ?_
            rotate_left
            · rintro w' ⟨s0, s1, s2, s3, s4⟩
              go_simp
              with_reducible rfl
            rotate_left
            · simp only [Act.put, List.setIfInBounds_toArray, List.set_cons_zero, List.set_cons_succ, i64_w, i32_w]
              rfl
            refine take_ (i := 3) (N := some 7) (v := ?_) (a' := ?_) #[true, true, true, true, false, true, false, true, false, false, false, false] rfl rfl (take_ofW HT_.out HW_.out (by kernel_rfl)) (fun _ _ _ h => h) (Or.inl ⟨by rfl, ?_⟩) hHeld ?_ ?_
            rotate_left
            · rintro w' ⟨s0, s1, s2, s3, s4⟩
              go_simp
              with_reducible rfl
            rotate_left
            · simp only [Act.put, List.setIfInBounds_toArray, List.set_cons_zero, List.set_cons_succ, i64_w, i32_w]
              rfl
            refine take_ (i := 6) (N := some 10) (v := ?_) (a' := ?_) #[true, true, true, true, false, true, true, true, false, false, false, false] rfl rfl (take_ofW HT_.out HW_.out (by kernel_rfl)) (fun _ _ _ h => h) (Or.inl ⟨by rfl, ?_⟩) hHeld ?_ ?_
            rotate_left
            · rintro w' ⟨s0, s1, s2, s3, s4⟩
              go_simp
              with_reducible rfl
            rotate_left
            · simp only [Act.put, List.setIfInBounds_toArray, List.set_cons_zero, List.set_cons_succ, i64_w, i32_w]
              rfl
            refine take_ (i := 8) (N := some 12) (v := ?_) (a' := ?_) #[true, true, true, true, false, true, true, true, true, false, false, false] rfl rfl (take_ofW HT_.out HW_.out (by kernel_rfl)) (fun _ _ _ h => h) (Or.inl ⟨by rfl, ?_⟩) hHeld ?_ ?_
            rotate_left
            · rintro w' ⟨s0, s1, s2, s3, s4⟩
              go_simp
              with_reducible rfl
            rotate_left
            · simp only [Act.put, List.setIfInBounds_toArray, List.set_cons_zero, List.set_cons_succ, i64_w, i32_w]
              rfl
            refine one_ (i := 4) (N := some 8) #[true, true, true, true, true, true, true, true, true, false, false, false] rfl rfl (one_of HT_.out (by kernel_rfl)) (by decide) (fun K hK => ?_)
            refine gq_ Tryd.func14 (by kernel_rfl) rfl #[.int .i64 a0_0, .int .i64 a0_1, .string (⟨#[105, 110]⟩ : ByteArray)] (by rfl) rfl rfl ?_
            with_reducible refine (tally_records.calls a0_0 a0_1 (⟨#[105, 110]⟩ : ByteArray) t124 _ A2.out ?tb8_).mono ?_
            (case tb8_ => exact tb_ HTAB HB)
            rintro e w23 ⟨rfl, hb⟩
            refine ⟨_, rfl, ?_⟩
            replace BK123 := bb_ BK123 hb
            replace HB := bs_ HB hb
            (try clear hb)
            (try clear hb2)
            (try clear hk)
            (try clear hi)
            refine hK.out _ _ ⟨(blk_cell BK123.out 0).trans rfl, (blk_cell BK123.out 1).trans rfl, (blk_cell BK123.out 2).trans rfl, (blk_cell BK123.out 3).trans rfl, (blk_cell BK123.out 4).trans rfl⟩ (fun hHeld => ?_)
            clear hK K
            refine norm_ (a' := ?_) ?_ ?_
            rotate_left
            · show Act.put _ (some 8) _ = _
              simp only [Act.put, List.setIfInBounds_toArray, List.set_cons_zero, List.set_cons_succ, i64_w, i32_w]
              rfl
            refine one_ (i := 9) (N := some 13) #[true, true, true, true, true, true, true, true, true, true, false, false] rfl rfl (one_of HT_.out (by kernel_rfl)) (by decide) (fun K hK => ?_)
            refine gq_ Tryd.func14 (by kernel_rfl) rfl #[.int .i64 a0_2, .int .i64 a0_3, .string (⟨#[111, 117, 116]⟩ : ByteArray)] (by rfl) rfl rfl ?_
            with_reducible refine (tally_records.calls a0_2 a0_3 (⟨#[111, 117, 116]⟩ : ByteArray) t125 _ A3.out ?tb10_).mono ?_
            (case tb10_ => exact tb_ HTAB HB)
            rintro e w24 ⟨rfl, hb⟩
            refine ⟨_, rfl, ?_⟩
            replace BK123 := bb_ BK123 hb
            replace HB := bs_ HB hb
            (try clear hb)
            (try clear hb2)
            (try clear hk)
            (try clear hi)
            refine hK.out _ _ ⟨(blk_cell BK123.out 0).trans rfl, (blk_cell BK123.out 1).trans rfl, (blk_cell BK123.out 2).trans rfl, (blk_cell BK123.out 3).trans rfl, (blk_cell BK123.out 4).trans rfl⟩ (fun hHeld => ?_)
            clear hK K
            refine norm_ (a' := ?_) ?_ ?_
            rotate_left
            · show Act.put _ (some 13) _ = _
              simp only [Act.put, List.setIfInBounds_toArray, List.set_cons_zero, List.set_cons_succ, i64_w, i32_w]
              rfl
            refine pu_ 10 14 (lb_ 12 2047) rfl rfl (any_of HT_.out (by kernel_rfl)) ?_
            refine pu_ 11 3 (lb_ 12 4095) rfl rfl (any_of HT_.out (by kernel_rfl)) ?_
            refine done_ (done_of HT_.out (by kernel_rfl)) ?_
            have hcz25_0 : w24.cell? ⟨gb123, 0, none⟩ = some (.int .i64 a0_0) := (blk_cell BK123.out 0).trans rfl
            have hcz25_1 : w24.cell? ⟨gb123, 1, none⟩ = some (.int .i64 a0_1) := (blk_cell BK123.out 1).trans rfl
            have hcz25_2 : w24.cell? ⟨gb123, 2, none⟩ = some (.int .i64 a0_2) := (blk_cell BK123.out 2).trans rfl
            have hcz25_3 : w24.cell? ⟨gb123, 3, none⟩ = some (.int .i64 a0_3) := (blk_cell BK123.out 3).trans rfl
            have hcz25_4 : w24.cell? ⟨gb123, 4, none⟩ = some (.int .i64 a0_4) := (blk_cell BK123.out 4).trans rfl
            have hfz25_0 := blk_frozen BK123.out 0
            have hfz25_1 := blk_frozen BK123.out 1
            have hfz25_2 := blk_frozen BK123.out 2
            have hfz25_3 := blk_frozen BK123.out 3
            have hfz25_4 := blk_frozen BK123.out 4
            try go_wp2_with (first | ((with_reducible refine gate_callee (f := 15) rfl ?_); refine gl_ (some 27) rfl rfl Tryd.func15 (by kernel_rfl) rfl #[.int .i64 a0_4] rfl ?_; (with_reducible refine (num_Dec.calls a0_4 t126 _ A18.out ?tb12_).mono ?_); (case tb12_ => exact tb_ HTAB HB); rintro e w26 ⟨rfl, hb⟩; refine ⟨_, rfl, ?_⟩; replace BK123 := bb_ BK123 hb; replace HB := bs_ HB hb; (try clear hb); (try clear hb2); (try clear hk); (try clear hi)))
            go_ret
            exact ⟨by first | rfl | (simp [errW_none, errW_some] <;> rfl) | (simp [*, errW_none, errW_some] <;> rfl), bh_ HB⟩
          · rw [if_neg c20] at H
            exact absurd H (by simp)
        · rw [if_neg c19] at H
          exact absurd H (by simp)
  · rw [if_neg c4] at H
    exact absurd H (by simp)

end Go.Proofs.YtabmegbapfajoaaDoor.P
