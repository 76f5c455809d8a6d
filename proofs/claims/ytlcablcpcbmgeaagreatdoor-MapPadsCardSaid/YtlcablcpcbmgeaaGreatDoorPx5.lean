/- Laid by a program of this session's own (wip/wprint.py, over the kit's print.py): functions of the given program as plain Lean functions, and that the program's calls come to their answers. -/
import Derived.Test.YtlcablcpcbmgeaaGreatDoorPx0
import Derived.Test.YtlcablcpcbmgeaaGreatDoorPx2
import Derived.Test.YtlcablcpcbmgeaaGreatDoorPx3
import Derived.Test.YtlcablcpcbmgeaaGreatDoorPx4
namespace Go.Proofs.YtlcablcpcbmgeaaGreatDoor.P
open Go.RowKit Go.Proofs.YtlcablcpcbmgeaaGreatDoorW.PrintWords Go.Proofs.YtlcablcpcbmgeaaGreatDoorW.PrintLast Go.Proofs.YtlcablcpcbmgeaaGreatDoorW.PrintMore
attribute [local go_sem] max2_int min2_int max_two min_two max_three min_three max_four min_four   -- for this text's walks alone
set_option linter.unusedVariables false
set_option linter.unusedSimpArgs false

/-! ### maptext_May: function 13 -/
def maptext_May.f (k : Nat) (a0_0 : Int) (a0_1 : Int) (a0_2 : Int) (l0_3 : List (S23)) : Option (Bool) := (region_May.f k l0_3).bind fun t110 => (if t110 = true then (if a0_0 ≥ 0 then ((region_End.f k l0_3).bind fun t111 => (if a0_0 ≤ t111 then (if a0_1 ≥ 0 then (if a0_1 ≤ 20 then ((region_Is.f a0_2).bind fun t112 => (some t112)) else (some false)) else (some false)) else (some false))) else (some false)) else (some false))
theorem maptext_May.mono : ∀ a0 a1 a2 a3 k, LeO (maptext_May.f k a0 a1 a2 a3) (maptext_May.f (k + 1) a0 a1 a2 a3) := by
 intro a0 a1 a2 a3 k
 unfold maptext_May.f
 repeat' first
   | (with_reducible exact region_End.mono _ _)
   | (with_reducible exact region_May.mono _ _)
   | (with_reducible exact LeO.refl _)
   | (with_reducible exact LeO.none _)
   | (with_reducible refine LeO.ite ?_ ?_)
   | (with_reducible refine LeO.bind ?_ (fun _ => ?_))
   | exact region_End.mono _ _
   | exact region_May.mono _ _
   | exact LeO.none _
   | refine LeO.ite ?_ ?_
   | refine LeO.bind ?_ (fun _ => ?_)
def maptext_May.T1 : Bool × List (List Nat × List Nat) := (true, [([], []), ([0], [0]), ([1], [1]), ([2, 2], [2]), ([3], [3]), ([4, 3], [3, 4]), ([5, 3], [3, 5]), ([3, 6], [3, 6]), ([7, 3], [7]), ([8], [8]), ([9, 8], [8, 9]), ([8], [8]), ([11, 8], [8, 11]), ([12, 8, 8], [8, 12]), ([10, 13, 8], [8, 10, 13]), ([8, 14], [8, 14]), ([15, 13], [15]), ([16], [16]), ([17, 16], [16, 17]), ([18, 16], [16, 18]), ([16, 19], [16, 19]), ([20, 16], [20]), ([21], [21]), ([22, 21], [21, 22]), ([23, 21], [21, 23]), ([21, 24], [21, 24]), ([25, 21], [25]), ([26], [26]), ([27, 26], [26, 27]), ([28, 26, 26], [26, 28]), ([26, 29], [26, 29]), ([30, 29, 0, 1, 2, 3, 4, 5, 6, 7, 8, 9, 10, 11, 12, 13, 14, 15, 16, 17, 18, 19, 20, 21, 22, 23, 24, 25, 26, 27, 28, 29, 30], [30])])
def maptext_May.B1 : List Nat := [0, 1, 3, 7, 15, 31, 63, 127, 255, 511, 1023, 511, 2559, 6655, 16383, 32767, 65535, 131071, 262143, 524287, 1048575, 2097151, 4194303, 8388607, 16777215, 33554431, 67108863, 134217727, 268435455, 536870911, 1073741823, 2147483647]
theorem maptext_May.tab1 : rtab .any (opsOf Tryz.f13 1) = maptext_May.T1 := by kernel_rfl
theorem maptext_May.bits1 : waitsOk maptext_May.T1.2 maptext_May.B1 = true := by kernel_rfl
set_option maxHeartbeats 8000000 in
set_option maxRecDepth 100000 in
theorem maptext_May.calls (k : Nat) (a0_0 : Int) (a0_1 : Int) (a0_2 : Int) (A0_3 : Option Addr) (c0_3 : Nat) (l0_3 : List (S23)) (r : Bool) (w : World) (hr0_3 : Kd.C k23 w A0_3 l0_3.length l0_3) (hc0_3 : l0_3.length ≤ c0_3) (h : maptext_May.f k a0_0 a0_1 a0_2 l0_3 = some r) :
  Calls Tryz.prog 13 #[.agg #[.int .i64 a0_0, .int .i64 a0_1, .int .u8 a0_2, .slice A0_3 l0_3.length c0_3]] w fun e w' => e = .returned (.bool r) ∧ Below w.heap.size w w' := by
 have hu26 := Tryz.underlying26
 have HR0_3 := Aside0.mk hr0_3
 have HC0_3 := Aside0.mk hc0_3
 clear hr0_3 hc0_3
 have HB := Aside0.mk (Below.refl w.heap.size w)
 have H : ((region_May.f k l0_3).bind fun t110 => (if t110 = true then (if a0_0 ≥ 0 then ((region_End.f k l0_3).bind fun t111 => (if a0_0 ≤ t111 then (if a0_1 ≥ 0 then (if a0_1 ≤ 20 then ((region_Is.f a0_2).bind fun t112 => (some t112)) else (some false)) else (some false)) else (some false))) else (some false)) else (some false))) = some r := h
 clear h
 replace H := Option.bind_eq_some_iff.mp H
 obtain ⟨t110, A20, H⟩ := H
 replace H : (if t110 = true then (if a0_0 ≥ 0 then ((region_End.f k l0_3).bind fun t111 => (if a0_0 ≤ t111 then (if a0_1 ≥ 0 then (if a0_1 ≤ 20 then ((region_Is.f a0_2).bind fun t112 => (some t112)) else (some false)) else (some false)) else (some false))) else (some false)) else (some false)) = some r := H
 have A2 := Aside0.mk A20
 clear A20
 by_cases c3 : t110 = true
 ·subst c3
  have H1 : (if a0_0 ≥ 0 then ((region_End.f k l0_3).bind fun t111 => (if a0_0 ≤ t111 then (if a0_1 ≥ 0 then (if a0_1 ≤ 20 then ((region_Is.f a0_2).bind fun t112 => (some t112)) else (some false)) else (some false)) else (some false))) else (some false)) = some r := by rw [if_pos rfl] at H; exact H
  clear H
  have H := H1
  clear H1
  by_cases c4 : a0_0 ≥ 0
  ·rw [if_pos c4] at H
   have c4b0 : decide (0 ≤ a0_0) = true := decide_eq_true c4
   clear c4
   replace H := Option.bind_eq_some_iff.mp H
   obtain ⟨t111, A50, H⟩ := H
   replace H : (if a0_0 ≤ t111 then (if a0_1 ≥ 0 then (if a0_1 ≤ 20 then ((region_Is.f a0_2).bind fun t112 => (some t112)) else (some false)) else (some false)) else (some false)) = some r := H
   have A5 := Aside0.mk A50
   clear A50
   by_cases c6 : a0_0 ≤ t111
   ·rw [if_pos c6] at H
    have c6b0 : decide (a0_0 ≤ t111) = true := decide_eq_true c6
    clear c6
    by_cases c7 : a0_1 ≥ 0
    ·rw [if_pos c7] at H
     have c7b0 : decide (0 ≤ a0_1) = true := decide_eq_true c7
     clear c7
     by_cases c8 : a0_1 ≤ 20
     ·rw [if_pos c8] at H
      have c8b0 : decide (a0_1 ≤ 20) = true := decide_eq_true c8
      clear c8
      replace H := Option.bind_eq_some_iff.mp H
      obtain ⟨t112, A90, H⟩ := H
      replace H : (some t112) = some r := H
      have A9 := Aside0.mk A90
      clear A90
      obtain rfl := Option.some.inj H
      go_enter Tryz.func13, Tryz.ntmps13
      try go_wp2_with (first | ((with_reducible refine gate_dst (N := 1) rfl ?_); refine box_e 1 #[.int .i64 a0_0, .int .i64 a0_1, .int .u8 a0_2, .slice A0_3 l0_3.length c0_3] 26 ?_; intro gb109 hg w10 hbox hb; have BK109 := Aside0.mk hbox; have GW109 := bg_ HB hg; have GE109 := bg_ HB hg; replace HB := bs_ HB hb; clear hb hbox hg))
      replace BK109 := Aside0.mk (blk_drew BK109.out)
      replace HB := Aside0.mk (below_drew1 HB.out)
      refine start_ (n := 32) (S := fun w' => w'.cell? ⟨gb109, 0, none⟩ = some (.int .i64 a0_0) ∧ w'.cell? ⟨gb109, 1, none⟩ = some (.int .i64 a0_1) ∧ w'.cell? ⟨gb109, 2, none⟩ = some (.int .u8 a0_2) ∧ w'.cell? ⟨gb109, 3, none⟩ = some (.slice A0_3 l0_3.length c0_3)) (ds := []) #[false, false, false, false, false, false, false, false, false, false, false, false, false, false, false, false, false, false, false, false, false, false, false, false, false, false, false, false, false, false, false, false] (by kernel_rfl) rfl rfl (k4_ BK109) (fun hHeld => ?_); refine with_tabW maptext_May.tab1 maptext_May.bits1 (fun HT_ HW_ => ?_)
      generalize w10.drew = w11 at BK109 HB hHeld ⊢
      refine pu_ 0 3 (lb_ 32 1) rfl rfl (ao_ HT_) ?_
      refine tk_ 1 4 (lb_ 32 3) rfl rfl (take_ofW HT_.out HW_.out (by kernel_rfl)) hHeld ?_
      refine one_ (i := 2) (N := some 5) #[true, true, true, false, false, false, false, false, false, false, false, false, false, false, false, false, false, false, false, false, false, false, false, false, false, false, false, false, false, false, false, false] rfl rfl (one_of HT_.out (by kernel_rfl)) (by decide) (fun K hK => ?_)
      refine gq_ Tryz.func35 (by kernel_rfl) rfl #[.slice A0_3 l0_3.length c0_3] (by rfl) rfl rfl ?_
      with_reducible refine (region_May.calls k _ _ l0_3 true _ ?side1 ?side2 A2.out).mono ?_
      (case side1 => exact cb_ HR0_3 HB)
      (case side2 => exact HC0_3.out)
      rintro e w12 ⟨rfl, hb⟩
      refine ⟨_, rfl, ?_⟩
      replace BK109 := bb_ BK109 hb
      replace HB := bs_ HB hb
      (try clear hb)
      refine hK.out _ _ (k4_ BK109) (fun hHeld => ?_)
      clear hK K
      refine nm_ 5 ?_
      refine pu_ 3 6 (lb_ 32 15) rfl rfl (ao_ HT_) ?_
      refine pu_ 4 7 (lb_ 32 31) rfl rfl (ao_ HT_) ?_
      refine tk_ 5 8 (lb_ 32 63) rfl rfl (take_ofW HT_.out HW_.out (by kernel_rfl)) hHeld ?_
      refine pu_ 6 9 (lb_ 32 127) rfl rfl (ao_ HT_) ?_
      refine pu_ 7 10 (lb_ 32 255) rfl rfl (ao_ HT_) ?_
      refine pu_ 8 11 (lb_ 32 511) rfl rfl (ao_ HT_) ?_
      refine pu_ 9 12 (lb_ 32 1023) rfl rfl (ao_ HT_) ?_
      refine pu_ 11 14 (lb_ 32 3071) rfl rfl (ao_ HT_) ?_
      refine tk_ 10 13 (lb_ 32 4095) rfl rfl (take_ofW HT_.out HW_.out (by kernel_rfl)) hHeld ?_
      refine tk_ 12 15 (lb_ 32 8191) rfl rfl (take_ofW HT_.out HW_.out (by kernel_rfl)) hHeld ?_
      refine one_ (i := 13) (N := some 16) #[true, true, true, true, true, true, true, true, true, true, true, true, true, true, false, false, false, false, false, false, false, false, false, false, false, false, false, false, false, false, false, false] rfl rfl (one_of HT_.out (by kernel_rfl)) (by decide) (fun K hK => ?_)
      refine gq_ Tryz.func36 (by kernel_rfl) rfl #[.slice A0_3 l0_3.length c0_3] (by rfl) rfl rfl ?_
      with_reducible refine (region_End.calls k _ _ l0_3 t111 _ ?side1 ?side2 A5.out).mono ?_
      (case side1 => exact cb_ HR0_3 HB)
      (case side2 => exact HC0_3.out)
      rintro e w13 ⟨rfl, hb⟩
      refine ⟨_, rfl, ?_⟩
      replace BK109 := bb_ BK109 hb
      replace HB := bs_ HB hb
      (try clear hb)
      refine hK.out _ _ (k4_ BK109) (fun hHeld => ?_)
      clear hK K
      refine nm_ 16 ?_
      refine pu_ 14 17 (lb_ 32 32767) rfl rfl (ao_ HT_) ?_
      refine pu_ 15 18 (lb_ 32 65535) rfl rfl (ao_ HT_) ?_
      refine pu_ 16 19 (lb_ 32 131071) rfl rfl (ao_ HT_) ?_
      refine pu_ 17 20 (lb_ 32 262143) rfl rfl (ao_ HT_) ?_
      refine tk_ 18 21 (lb_ 32 524287) rfl rfl (take_ofW HT_.out HW_.out (by kernel_rfl)) hHeld ?_
      refine pu_ 19 22 (lb_ 32 1048575) rfl rfl (ao_ HT_) ?_
      refine pu_ 20 23 (lb_ 32 2097151) rfl rfl (ao_ HT_) ?_
      refine pu_ 21 24 (lb_ 32 4194303) rfl rfl (ao_ HT_) ?_
      refine pu_ 22 25 (lb_ 32 8388607) rfl rfl (ao_ HT_) ?_
      refine tk_ 23 26 (lb_ 32 16777215) rfl rfl (take_ofW HT_.out HW_.out (by kernel_rfl)) hHeld ?_
      refine pu_ 24 27 (lb_ 32 33554431) rfl rfl (ao_ HT_) ?_
      refine pu_ 25 28 (lb_ 32 67108863) rfl rfl (ao_ HT_) ?_
      refine pu_ 26 29 (lb_ 32 134217727) rfl rfl (ao_ HT_) ?_
      refine pu_ 27 30 (lb_ 32 268435455) rfl rfl (ao_ HT_) ?_
      refine tk_ 28 31 (lb_ 32 536870911) rfl rfl (take_ofW HT_.out HW_.out (by kernel_rfl)) hHeld ?_
      refine one_ (i := 29) (N := some 32) #[true, true, true, true, true, true, true, true, true, true, true, true, true, true, true, true, true, true, true, true, true, true, true, true, true, true, true, true, true, true, false, false] rfl rfl (one_of HT_.out (by kernel_rfl)) (by decide) (fun K hK => ?_)
      refine gq_ Tryz.func37 (by kernel_rfl) rfl #[.int .u8 a0_2] (by rfl) rfl rfl ?_
      with_reducible refine (region_Is.calls a0_2 t112 _ A9.out).mono ?_
      rintro e w' ⟨rfl, ⟨nd, rfl⟩⟩
      refine ⟨_, rfl, ?_⟩
      refine hK.out _ _ (k4_ BK109) (fun hHeld => ?_)
      clear hK K
      refine nm_ 32 ?_
      refine pu_ 30 33 (lb_ 32 2147483647) rfl rfl (ao_ HT_) ?_
      refine pu_ 31 2 (lb_ 32 4294967295) rfl rfl (ao_ HT_) ?_
      refine done_ (done_of HT_.out (by kernel_rfl)) ?_
      try go_wp2
      go_ret
      exact ⟨by first | rfl | (simp [errW_none, errW_some] <;> rfl) | (simp [*, errW_none, errW_some] <;> rfl), bh_ HB⟩
     ·rw [if_neg c8] at H
      have c8b0 : decide (a0_1 ≤ 20) = false := decide_eq_false c8
      clear c8
      obtain rfl := Option.some.inj H
      go_enter Tryz.func13, Tryz.ntmps13
      try go_wp2_with (first | ((with_reducible refine gate_dst (N := 1) rfl ?_); refine box_e 1 #[.int .i64 a0_0, .int .i64 a0_1, .int .u8 a0_2, .slice A0_3 l0_3.length c0_3] 26 ?_; intro gb109 hg w14 hbox hb; have BK109 := Aside0.mk hbox; have GW109 := bg_ HB hg; have GE109 := bg_ HB hg; replace HB := bs_ HB hb; clear hb hbox hg))
      replace BK109 := Aside0.mk (blk_drew BK109.out)
      replace HB := Aside0.mk (below_drew1 HB.out)
      refine start_ (n := 32) (S := fun w' => w'.cell? ⟨gb109, 0, none⟩ = some (.int .i64 a0_0) ∧ w'.cell? ⟨gb109, 1, none⟩ = some (.int .i64 a0_1) ∧ w'.cell? ⟨gb109, 2, none⟩ = some (.int .u8 a0_2) ∧ w'.cell? ⟨gb109, 3, none⟩ = some (.slice A0_3 l0_3.length c0_3)) (ds := []) #[false, false, false, false, false, false, false, false, false, false, false, false, false, false, false, false, false, false, false, false, false, false, false, false, false, false, false, false, false, false, false, false] (by kernel_rfl) rfl rfl (k4_ BK109) (fun hHeld => ?_); refine with_tabW maptext_May.tab1 maptext_May.bits1 (fun HT_ HW_ => ?_)
      generalize w14.drew = w15 at BK109 HB hHeld ⊢
      refine pu_ 0 3 (lb_ 32 1) rfl rfl (ao_ HT_) ?_
      refine tk_ 1 4 (lb_ 32 3) rfl rfl (take_ofW HT_.out HW_.out (by kernel_rfl)) hHeld ?_
      refine one_ (i := 2) (N := some 5) #[true, true, true, false, false, false, false, false, false, false, false, false, false, false, false, false, false, false, false, false, false, false, false, false, false, false, false, false, false, false, false, false] rfl rfl (one_of HT_.out (by kernel_rfl)) (by decide) (fun K hK => ?_)
      refine gq_ Tryz.func35 (by kernel_rfl) rfl #[.slice A0_3 l0_3.length c0_3] (by rfl) rfl rfl ?_
      with_reducible refine (region_May.calls k _ _ l0_3 true _ ?side1 ?side2 A2.out).mono ?_
      (case side1 => exact cb_ HR0_3 HB)
      (case side2 => exact HC0_3.out)
      rintro e w16 ⟨rfl, hb⟩
      refine ⟨_, rfl, ?_⟩
      replace BK109 := bb_ BK109 hb
      replace HB := bs_ HB hb
      (try clear hb)
      refine hK.out _ _ (k4_ BK109) (fun hHeld => ?_)
      clear hK K
      refine nm_ 5 ?_
      refine pu_ 3 6 (lb_ 32 15) rfl rfl (ao_ HT_) ?_
      refine pu_ 4 7 (lb_ 32 31) rfl rfl (ao_ HT_) ?_
      refine tk_ 5 8 (lb_ 32 63) rfl rfl (take_ofW HT_.out HW_.out (by kernel_rfl)) hHeld ?_
      refine pu_ 6 9 (lb_ 32 127) rfl rfl (ao_ HT_) ?_
      refine pu_ 7 10 (lb_ 32 255) rfl rfl (ao_ HT_) ?_
      refine pu_ 8 11 (lb_ 32 511) rfl rfl (ao_ HT_) ?_
      refine pu_ 9 12 (lb_ 32 1023) rfl rfl (ao_ HT_) ?_
      refine pu_ 11 14 (lb_ 32 3071) rfl rfl (ao_ HT_) ?_
      refine tk_ 10 13 (lb_ 32 4095) rfl rfl (take_ofW HT_.out HW_.out (by kernel_rfl)) hHeld ?_
      refine tk_ 12 15 (lb_ 32 8191) rfl rfl (take_ofW HT_.out HW_.out (by kernel_rfl)) hHeld ?_
      refine one_ (i := 13) (N := some 16) #[true, true, true, true, true, true, true, true, true, true, true, true, true, true, false, false, false, false, false, false, false, false, false, false, false, false, false, false, false, false, false, false] rfl rfl (one_of HT_.out (by kernel_rfl)) (by decide) (fun K hK => ?_)
      refine gq_ Tryz.func36 (by kernel_rfl) rfl #[.slice A0_3 l0_3.length c0_3] (by rfl) rfl rfl ?_
      with_reducible refine (region_End.calls k _ _ l0_3 t111 _ ?side1 ?side2 A5.out).mono ?_
      (case side1 => exact cb_ HR0_3 HB)
      (case side2 => exact HC0_3.out)
      rintro e w17 ⟨rfl, hb⟩
      refine ⟨_, rfl, ?_⟩
      replace BK109 := bb_ BK109 hb
      replace HB := bs_ HB hb
      (try clear hb)
      refine hK.out _ _ (k4_ BK109) (fun hHeld => ?_)
      clear hK K
      refine nm_ 16 ?_
      refine pu_ 14 17 (lb_ 32 32767) rfl rfl (ao_ HT_) ?_
      refine pu_ 15 18 (lb_ 32 65535) rfl rfl (ao_ HT_) ?_
      refine pu_ 16 19 (lb_ 32 131071) rfl rfl (ao_ HT_) ?_
      refine pu_ 17 20 (lb_ 32 262143) rfl rfl (ao_ HT_) ?_
      refine tk_ 18 21 (lb_ 32 524287) rfl rfl (take_ofW HT_.out HW_.out (by kernel_rfl)) hHeld ?_
      refine pu_ 19 22 (lb_ 32 1048575) rfl rfl (ao_ HT_) ?_
      refine pu_ 20 23 (lb_ 32 2097151) rfl rfl (ao_ HT_) ?_
      refine pu_ 21 24 (lb_ 32 4194303) rfl rfl (ao_ HT_) ?_
      refine pu_ 22 25 (lb_ 32 8388607) rfl rfl (ao_ HT_) ?_
      refine tk_ 23 26 (lb_ 32 16777215) rfl rfl (take_ofW HT_.out HW_.out (by kernel_rfl)) hHeld ?_
      refine pu_ 24 27 (lb_ 32 33554431) rfl rfl (ao_ HT_) ?_
      refine pu_ 25 28 (lb_ 32 67108863) rfl rfl (ao_ HT_) ?_
      refine pu_ 26 29 (lb_ 32 134217727) rfl rfl (ao_ HT_) ?_
      refine pd_ 27 30 (lb_ 32 268435455) rfl rfl (ao_ HT_) ?_
      refine pd_ 28 31 (lb_ 32 536870911) rfl rfl (ao_ HT_) ?_
      refine pd_ 29 32 (lb_ 32 1073741823) rfl rfl (ao_ HT_) ?_
      refine pu_ 30 33 (lb_ 32 2147483647) rfl rfl (ao_ HT_) ?_
      refine pu_ 31 2 (lb_ 32 4294967295) rfl rfl (ao_ HT_) ?_
      refine done_ (done_of HT_.out (by kernel_rfl)) ?_
      try go_wp2
      go_ret
      exact ⟨by first | rfl | (simp [errW_none, errW_some] <;> rfl) | (simp [*, errW_none, errW_some] <;> rfl), bh_ HB⟩
    ·rw [if_neg c7] at H
     have c7b0 : decide (0 ≤ a0_1) = false := decide_eq_false c7
     clear c7
     obtain rfl := Option.some.inj H
     go_enter Tryz.func13, Tryz.ntmps13
     try go_wp2_with (first | ((with_reducible refine gate_dst (N := 1) rfl ?_); refine box_e 1 #[.int .i64 a0_0, .int .i64 a0_1, .int .u8 a0_2, .slice A0_3 l0_3.length c0_3] 26 ?_; intro gb109 hg w18 hbox hb; have BK109 := Aside0.mk hbox; have GW109 := bg_ HB hg; have GE109 := bg_ HB hg; replace HB := bs_ HB hb; clear hb hbox hg))
     replace BK109 := Aside0.mk (blk_drew BK109.out)
     replace HB := Aside0.mk (below_drew1 HB.out)
     refine start_ (n := 32) (S := fun w' => w'.cell? ⟨gb109, 0, none⟩ = some (.int .i64 a0_0) ∧ w'.cell? ⟨gb109, 1, none⟩ = some (.int .i64 a0_1) ∧ w'.cell? ⟨gb109, 2, none⟩ = some (.int .u8 a0_2) ∧ w'.cell? ⟨gb109, 3, none⟩ = some (.slice A0_3 l0_3.length c0_3)) (ds := []) #[false, false, false, false, false, false, false, false, false, false, false, false, false, false, false, false, false, false, false, false, false, false, false, false, false, false, false, false, false, false, false, false] (by kernel_rfl) rfl rfl (k4_ BK109) (fun hHeld => ?_); refine with_tabW maptext_May.tab1 maptext_May.bits1 (fun HT_ HW_ => ?_)
     generalize w18.drew = w19 at BK109 HB hHeld ⊢
     refine pu_ 0 3 (lb_ 32 1) rfl rfl (ao_ HT_) ?_
     refine tk_ 1 4 (lb_ 32 3) rfl rfl (take_ofW HT_.out HW_.out (by kernel_rfl)) hHeld ?_
     refine one_ (i := 2) (N := some 5) #[true, true, true, false, false, false, false, false, false, false, false, false, false, false, false, false, false, false, false, false, false, false, false, false, false, false, false, false, false, false, false, false] rfl rfl (one_of HT_.out (by kernel_rfl)) (by decide) (fun K hK => ?_)
     refine gq_ Tryz.func35 (by kernel_rfl) rfl #[.slice A0_3 l0_3.length c0_3] (by rfl) rfl rfl ?_
     with_reducible refine (region_May.calls k _ _ l0_3 true _ ?side1 ?side2 A2.out).mono ?_
     (case side1 => exact cb_ HR0_3 HB)
     (case side2 => exact HC0_3.out)
     rintro e w20 ⟨rfl, hb⟩
     refine ⟨_, rfl, ?_⟩
     replace BK109 := bb_ BK109 hb
     replace HB := bs_ HB hb
     (try clear hb)
     refine hK.out _ _ (k4_ BK109) (fun hHeld => ?_)
     clear hK K
     refine nm_ 5 ?_
     refine pu_ 3 6 (lb_ 32 15) rfl rfl (ao_ HT_) ?_
     refine pu_ 4 7 (lb_ 32 31) rfl rfl (ao_ HT_) ?_
     refine tk_ 5 8 (lb_ 32 63) rfl rfl (take_ofW HT_.out HW_.out (by kernel_rfl)) hHeld ?_
     refine pu_ 6 9 (lb_ 32 127) rfl rfl (ao_ HT_) ?_
     refine pu_ 7 10 (lb_ 32 255) rfl rfl (ao_ HT_) ?_
     refine pu_ 8 11 (lb_ 32 511) rfl rfl (ao_ HT_) ?_
     refine pu_ 9 12 (lb_ 32 1023) rfl rfl (ao_ HT_) ?_
     refine pu_ 11 14 (lb_ 32 3071) rfl rfl (ao_ HT_) ?_
     refine tk_ 10 13 (lb_ 32 4095) rfl rfl (take_ofW HT_.out HW_.out (by kernel_rfl)) hHeld ?_
     refine tk_ 12 15 (lb_ 32 8191) rfl rfl (take_ofW HT_.out HW_.out (by kernel_rfl)) hHeld ?_
     refine one_ (i := 13) (N := some 16) #[true, true, true, true, true, true, true, true, true, true, true, true, true, true, false, false, false, false, false, false, false, false, false, false, false, false, false, false, false, false, false, false] rfl rfl (one_of HT_.out (by kernel_rfl)) (by decide) (fun K hK => ?_)
     refine gq_ Tryz.func36 (by kernel_rfl) rfl #[.slice A0_3 l0_3.length c0_3] (by rfl) rfl rfl ?_
     with_reducible refine (region_End.calls k _ _ l0_3 t111 _ ?side1 ?side2 A5.out).mono ?_
     (case side1 => exact cb_ HR0_3 HB)
     (case side2 => exact HC0_3.out)
     rintro e w21 ⟨rfl, hb⟩
     refine ⟨_, rfl, ?_⟩
     replace BK109 := bb_ BK109 hb
     replace HB := bs_ HB hb
     (try clear hb)
     refine hK.out _ _ (k4_ BK109) (fun hHeld => ?_)
     clear hK K
     refine nm_ 16 ?_
     refine pu_ 14 17 (lb_ 32 32767) rfl rfl (ao_ HT_) ?_
     refine pu_ 15 18 (lb_ 32 65535) rfl rfl (ao_ HT_) ?_
     refine pu_ 16 19 (lb_ 32 131071) rfl rfl (ao_ HT_) ?_
     refine pu_ 17 20 (lb_ 32 262143) rfl rfl (ao_ HT_) ?_
     refine tk_ 18 21 (lb_ 32 524287) rfl rfl (take_ofW HT_.out HW_.out (by kernel_rfl)) hHeld ?_
     refine pu_ 19 22 (lb_ 32 1048575) rfl rfl (ao_ HT_) ?_
     refine pu_ 20 23 (lb_ 32 2097151) rfl rfl (ao_ HT_) ?_
     refine pu_ 21 24 (lb_ 32 4194303) rfl rfl (ao_ HT_) ?_
     refine pd_ 22 25 (lb_ 32 8388607) rfl rfl (ao_ HT_) ?_
     refine pd_ 23 26 (lb_ 32 16777215) rfl rfl (ao_ HT_) ?_
     refine pd_ 24 27 (lb_ 32 33554431) rfl rfl (ao_ HT_) ?_
     refine pu_ 25 28 (lb_ 32 67108863) rfl rfl (ao_ HT_) ?_
     refine pu_ 26 29 (lb_ 32 134217727) rfl rfl (ao_ HT_) ?_
     refine pd_ 27 30 (lb_ 32 268435455) rfl rfl (ao_ HT_) ?_
     refine pd_ 28 31 (lb_ 32 536870911) rfl rfl (ao_ HT_) ?_
     refine pd_ 29 32 (lb_ 32 1073741823) rfl rfl (ao_ HT_) ?_
     refine pu_ 30 33 (lb_ 32 2147483647) rfl rfl (ao_ HT_) ?_
     refine pu_ 31 2 (lb_ 32 4294967295) rfl rfl (ao_ HT_) ?_
     refine done_ (done_of HT_.out (by kernel_rfl)) ?_
     try go_wp2
     go_ret
     exact ⟨by first | rfl | (simp [errW_none, errW_some] <;> rfl) | (simp [*, errW_none, errW_some] <;> rfl), bh_ HB⟩
   ·rw [if_neg c6] at H
    have c6b0 : decide (a0_0 ≤ t111) = false := decide_eq_false c6
    clear c6
    obtain rfl := Option.some.inj H
    go_enter Tryz.func13, Tryz.ntmps13
    try go_wp2_with (first | ((with_reducible refine gate_dst (N := 1) rfl ?_); refine box_e 1 #[.int .i64 a0_0, .int .i64 a0_1, .int .u8 a0_2, .slice A0_3 l0_3.length c0_3] 26 ?_; intro gb109 hg w22 hbox hb; have BK109 := Aside0.mk hbox; have GW109 := bg_ HB hg; have GE109 := bg_ HB hg; replace HB := bs_ HB hb; clear hb hbox hg))
    replace BK109 := Aside0.mk (blk_drew BK109.out)
    replace HB := Aside0.mk (below_drew1 HB.out)
    refine start_ (n := 32) (S := fun w' => w'.cell? ⟨gb109, 0, none⟩ = some (.int .i64 a0_0) ∧ w'.cell? ⟨gb109, 1, none⟩ = some (.int .i64 a0_1) ∧ w'.cell? ⟨gb109, 2, none⟩ = some (.int .u8 a0_2) ∧ w'.cell? ⟨gb109, 3, none⟩ = some (.slice A0_3 l0_3.length c0_3)) (ds := []) #[false, false, false, false, false, false, false, false, false, false, false, false, false, false, false, false, false, false, false, false, false, false, false, false, false, false, false, false, false, false, false, false] (by kernel_rfl) rfl rfl (k4_ BK109) (fun hHeld => ?_); refine with_tabW maptext_May.tab1 maptext_May.bits1 (fun HT_ HW_ => ?_)
    generalize w22.drew = w23 at BK109 HB hHeld ⊢
    refine pu_ 0 3 (lb_ 32 1) rfl rfl (ao_ HT_) ?_
    refine tk_ 1 4 (lb_ 32 3) rfl rfl (take_ofW HT_.out HW_.out (by kernel_rfl)) hHeld ?_
    refine one_ (i := 2) (N := some 5) #[true, true, true, false, false, false, false, false, false, false, false, false, false, false, false, false, false, false, false, false, false, false, false, false, false, false, false, false, false, false, false, false] rfl rfl (one_of HT_.out (by kernel_rfl)) (by decide) (fun K hK => ?_)
    refine gq_ Tryz.func35 (by kernel_rfl) rfl #[.slice A0_3 l0_3.length c0_3] (by rfl) rfl rfl ?_
    with_reducible refine (region_May.calls k _ _ l0_3 true _ ?side1 ?side2 A2.out).mono ?_
    (case side1 => exact cb_ HR0_3 HB)
    (case side2 => exact HC0_3.out)
    rintro e w24 ⟨rfl, hb⟩
    refine ⟨_, rfl, ?_⟩
    replace BK109 := bb_ BK109 hb
    replace HB := bs_ HB hb
    (try clear hb)
    refine hK.out _ _ (k4_ BK109) (fun hHeld => ?_)
    clear hK K
    refine nm_ 5 ?_
    refine pu_ 3 6 (lb_ 32 15) rfl rfl (ao_ HT_) ?_
    refine pu_ 4 7 (lb_ 32 31) rfl rfl (ao_ HT_) ?_
    refine tk_ 5 8 (lb_ 32 63) rfl rfl (take_ofW HT_.out HW_.out (by kernel_rfl)) hHeld ?_
    refine pu_ 6 9 (lb_ 32 127) rfl rfl (ao_ HT_) ?_
    refine pu_ 7 10 (lb_ 32 255) rfl rfl (ao_ HT_) ?_
    refine pu_ 8 11 (lb_ 32 511) rfl rfl (ao_ HT_) ?_
    refine pu_ 9 12 (lb_ 32 1023) rfl rfl (ao_ HT_) ?_
    refine pu_ 11 14 (lb_ 32 3071) rfl rfl (ao_ HT_) ?_
    refine tk_ 10 13 (lb_ 32 4095) rfl rfl (take_ofW HT_.out HW_.out (by kernel_rfl)) hHeld ?_
    refine tk_ 12 15 (lb_ 32 8191) rfl rfl (take_ofW HT_.out HW_.out (by kernel_rfl)) hHeld ?_
    refine one_ (i := 13) (N := some 16) #[true, true, true, true, true, true, true, true, true, true, true, true, true, true, false, false, false, false, false, false, false, false, false, false, false, false, false, false, false, false, false, false] rfl rfl (one_of HT_.out (by kernel_rfl)) (by decide) (fun K hK => ?_)
    refine gq_ Tryz.func36 (by kernel_rfl) rfl #[.slice A0_3 l0_3.length c0_3] (by rfl) rfl rfl ?_
    with_reducible refine (region_End.calls k _ _ l0_3 t111 _ ?side1 ?side2 A5.out).mono ?_
    (case side1 => exact cb_ HR0_3 HB)
    (case side2 => exact HC0_3.out)
    rintro e w25 ⟨rfl, hb⟩
    refine ⟨_, rfl, ?_⟩
    replace BK109 := bb_ BK109 hb
    replace HB := bs_ HB hb
    (try clear hb)
    refine hK.out _ _ (k4_ BK109) (fun hHeld => ?_)
    clear hK K
    refine nm_ 16 ?_
    refine pu_ 14 17 (lb_ 32 32767) rfl rfl (ao_ HT_) ?_
    refine pu_ 15 18 (lb_ 32 65535) rfl rfl (ao_ HT_) ?_
    refine pu_ 16 19 (lb_ 32 131071) rfl rfl (ao_ HT_) ?_
    refine pd_ 17 20 (lb_ 32 262143) rfl rfl (ao_ HT_) ?_
    refine pd_ 18 21 (lb_ 32 524287) rfl rfl (ao_ HT_) ?_
    refine pd_ 19 22 (lb_ 32 1048575) rfl rfl (ao_ HT_) ?_
    refine pu_ 20 23 (lb_ 32 2097151) rfl rfl (ao_ HT_) ?_
    refine pu_ 21 24 (lb_ 32 4194303) rfl rfl (ao_ HT_) ?_
    refine pd_ 22 25 (lb_ 32 8388607) rfl rfl (ao_ HT_) ?_
    refine pd_ 23 26 (lb_ 32 16777215) rfl rfl (ao_ HT_) ?_
    refine pd_ 24 27 (lb_ 32 33554431) rfl rfl (ao_ HT_) ?_
    refine pu_ 25 28 (lb_ 32 67108863) rfl rfl (ao_ HT_) ?_
    refine pu_ 26 29 (lb_ 32 134217727) rfl rfl (ao_ HT_) ?_
    refine pd_ 27 30 (lb_ 32 268435455) rfl rfl (ao_ HT_) ?_
    refine pd_ 28 31 (lb_ 32 536870911) rfl rfl (ao_ HT_) ?_
    refine pd_ 29 32 (lb_ 32 1073741823) rfl rfl (ao_ HT_) ?_
    refine pu_ 30 33 (lb_ 32 2147483647) rfl rfl (ao_ HT_) ?_
    refine pu_ 31 2 (lb_ 32 4294967295) rfl rfl (ao_ HT_) ?_
    refine done_ (done_of HT_.out (by kernel_rfl)) ?_
    try go_wp2
    go_ret
    exact ⟨by first | rfl | (simp [errW_none, errW_some] <;> rfl) | (simp [*, errW_none, errW_some] <;> rfl), bh_ HB⟩
  ·rw [if_neg c4] at H
   have c4b0 : decide (0 ≤ a0_0) = false := decide_eq_false c4
   clear c4
   obtain rfl := Option.some.inj H
   go_enter Tryz.func13, Tryz.ntmps13
   try go_wp2_with (first | ((with_reducible refine gate_dst (N := 1) rfl ?_); refine box_e 1 #[.int .i64 a0_0, .int .i64 a0_1, .int .u8 a0_2, .slice A0_3 l0_3.length c0_3] 26 ?_; intro gb109 hg w26 hbox hb; have BK109 := Aside0.mk hbox; have GW109 := bg_ HB hg; have GE109 := bg_ HB hg; replace HB := bs_ HB hb; clear hb hbox hg))
   replace BK109 := Aside0.mk (blk_drew BK109.out)
   replace HB := Aside0.mk (below_drew1 HB.out)
   refine start_ (n := 32) (S := fun w' => w'.cell? ⟨gb109, 0, none⟩ = some (.int .i64 a0_0) ∧ w'.cell? ⟨gb109, 1, none⟩ = some (.int .i64 a0_1) ∧ w'.cell? ⟨gb109, 2, none⟩ = some (.int .u8 a0_2) ∧ w'.cell? ⟨gb109, 3, none⟩ = some (.slice A0_3 l0_3.length c0_3)) (ds := []) #[false, false, false, false, false, false, false, false, false, false, false, false, false, false, false, false, false, false, false, false, false, false, false, false, false, false, false, false, false, false, false, false] (by kernel_rfl) rfl rfl (k4_ BK109) (fun hHeld => ?_); refine with_tabW maptext_May.tab1 maptext_May.bits1 (fun HT_ HW_ => ?_)
   generalize w26.drew = w27 at BK109 HB hHeld ⊢
   refine pu_ 0 3 (lb_ 32 1) rfl rfl (ao_ HT_) ?_
   refine tk_ 1 4 (lb_ 32 3) rfl rfl (take_ofW HT_.out HW_.out (by kernel_rfl)) hHeld ?_
   refine one_ (i := 2) (N := some 5) #[true, true, true, false, false, false, false, false, false, false, false, false, false, false, false, false, false, false, false, false, false, false, false, false, false, false, false, false, false, false, false, false] rfl rfl (one_of HT_.out (by kernel_rfl)) (by decide) (fun K hK => ?_)
   refine gq_ Tryz.func35 (by kernel_rfl) rfl #[.slice A0_3 l0_3.length c0_3] (by rfl) rfl rfl ?_
   with_reducible refine (region_May.calls k _ _ l0_3 true _ ?side1 ?side2 A2.out).mono ?_
   (case side1 => exact cb_ HR0_3 HB)
   (case side2 => exact HC0_3.out)
   rintro e w28 ⟨rfl, hb⟩
   refine ⟨_, rfl, ?_⟩
   replace BK109 := bb_ BK109 hb
   replace HB := bs_ HB hb
   (try clear hb)
   refine hK.out _ _ (k4_ BK109) (fun hHeld => ?_)
   clear hK K
   refine nm_ 5 ?_
   refine pu_ 3 6 (lb_ 32 15) rfl rfl (ao_ HT_) ?_
   refine pu_ 4 7 (lb_ 32 31) rfl rfl (ao_ HT_) ?_
   refine tk_ 5 8 (lb_ 32 63) rfl rfl (take_ofW HT_.out HW_.out (by kernel_rfl)) hHeld ?_
   refine pu_ 6 9 (lb_ 32 127) rfl rfl (ao_ HT_) ?_
   refine pu_ 7 10 (lb_ 32 255) rfl rfl (ao_ HT_) ?_
   refine pu_ 8 11 (lb_ 32 511) rfl rfl (ao_ HT_) ?_
   refine pd_ 9 12 (lb_ 32 1023) rfl rfl (ao_ HT_) ?_
   refine pd_ 10 13 (lb_ 32 2047) rfl rfl (ao_ HT_) ?_
   refine pd_ 11 14 (lb_ 32 4095) rfl rfl (ao_ HT_) ?_
   refine pd_ 12 15 (lb_ 32 8191) rfl rfl (ao_ HT_) ?_
   refine pd_ 13 16 (lb_ 32 16383) rfl rfl (ao_ HT_) ?_
   refine pd_ 14 17 (lb_ 32 32767) rfl rfl (ao_ HT_) ?_
   refine pu_ 15 18 (lb_ 32 65535) rfl rfl (ao_ HT_) ?_
   refine pu_ 16 19 (lb_ 32 131071) rfl rfl (ao_ HT_) ?_
   refine pd_ 17 20 (lb_ 32 262143) rfl rfl (ao_ HT_) ?_
   refine pd_ 18 21 (lb_ 32 524287) rfl rfl (ao_ HT_) ?_
   refine pd_ 19 22 (lb_ 32 1048575) rfl rfl (ao_ HT_) ?_
   refine pu_ 20 23 (lb_ 32 2097151) rfl rfl (ao_ HT_) ?_
   refine pu_ 21 24 (lb_ 32 4194303) rfl rfl (ao_ HT_) ?_
   refine pd_ 22 25 (lb_ 32 8388607) rfl rfl (ao_ HT_) ?_
   refine pd_ 23 26 (lb_ 32 16777215) rfl rfl (ao_ HT_) ?_
   refine pd_ 24 27 (lb_ 32 33554431) rfl rfl (ao_ HT_) ?_
   refine pu_ 25 28 (lb_ 32 67108863) rfl rfl (ao_ HT_) ?_
   refine pu_ 26 29 (lb_ 32 134217727) rfl rfl (ao_ HT_) ?_
   refine pd_ 27 30 (lb_ 32 268435455) rfl rfl (ao_ HT_) ?_
   refine pd_ 28 31 (lb_ 32 536870911) rfl rfl (ao_ HT_) ?_
   refine pd_ 29 32 (lb_ 32 1073741823) rfl rfl (ao_ HT_) ?_
   refine pu_ 30 33 (lb_ 32 2147483647) rfl rfl (ao_ HT_) ?_
   refine pu_ 31 2 (lb_ 32 4294967295) rfl rfl (ao_ HT_) ?_
   refine done_ (done_of HT_.out (by kernel_rfl)) ?_
   try go_wp2
   go_ret
   exact ⟨by first | rfl | (simp [errW_none, errW_some] <;> rfl) | (simp [*, errW_none, errW_some] <;> rfl), bh_ HB⟩
 ·replace c3 := Bool.eq_false_iff.mpr c3
  subst c3
  have H1 : (some false) = some r := by rw [if_neg (show ¬ (false = true) by decide)] at H; exact H
  clear H
  have H := H1
  clear H1
  obtain rfl := Option.some.inj H
  go_enter Tryz.func13, Tryz.ntmps13
  try go_wp2_with (first | ((with_reducible refine gate_dst (N := 1) rfl ?_); refine box_e 1 #[.int .i64 a0_0, .int .i64 a0_1, .int .u8 a0_2, .slice A0_3 l0_3.length c0_3] 26 ?_; intro gb109 hg w29 hbox hb; have BK109 := Aside0.mk hbox; have GW109 := bg_ HB hg; have GE109 := bg_ HB hg; replace HB := bs_ HB hb; clear hb hbox hg))
  replace BK109 := Aside0.mk (blk_drew BK109.out)
  replace HB := Aside0.mk (below_drew1 HB.out)
  refine start_ (n := 32) (S := fun w' => w'.cell? ⟨gb109, 0, none⟩ = some (.int .i64 a0_0) ∧ w'.cell? ⟨gb109, 1, none⟩ = some (.int .i64 a0_1) ∧ w'.cell? ⟨gb109, 2, none⟩ = some (.int .u8 a0_2) ∧ w'.cell? ⟨gb109, 3, none⟩ = some (.slice A0_3 l0_3.length c0_3)) (ds := []) #[false, false, false, false, false, false, false, false, false, false, false, false, false, false, false, false, false, false, false, false, false, false, false, false, false, false, false, false, false, false, false, false] (by kernel_rfl) rfl rfl (k4_ BK109) (fun hHeld => ?_); refine with_tabW maptext_May.tab1 maptext_May.bits1 (fun HT_ HW_ => ?_)
  generalize w29.drew = w30 at BK109 HB hHeld ⊢
  refine pu_ 0 3 (lb_ 32 1) rfl rfl (ao_ HT_) ?_
  refine tk_ 1 4 (lb_ 32 3) rfl rfl (take_ofW HT_.out HW_.out (by kernel_rfl)) hHeld ?_
  refine one_ (i := 2) (N := some 5) #[true, true, true, false, false, false, false, false, false, false, false, false, false, false, false, false, false, false, false, false, false, false, false, false, false, false, false, false, false, false, false, false] rfl rfl (one_of HT_.out (by kernel_rfl)) (by decide) (fun K hK => ?_)
  refine gq_ Tryz.func35 (by kernel_rfl) rfl #[.slice A0_3 l0_3.length c0_3] (by rfl) rfl rfl ?_
  with_reducible refine (region_May.calls k _ _ l0_3 false _ ?side1 ?side2 A2.out).mono ?_
  (case side1 => exact cb_ HR0_3 HB)
  (case side2 => exact HC0_3.out)
  rintro e w31 ⟨rfl, hb⟩
  refine ⟨_, rfl, ?_⟩
  replace BK109 := bb_ BK109 hb
  replace HB := bs_ HB hb
  (try clear hb)
  refine hK.out _ _ (k4_ BK109) (fun hHeld => ?_)
  clear hK K
  refine nm_ 5 ?_
  refine pu_ 3 6 (lb_ 32 15) rfl rfl (ao_ HT_) ?_
  refine pd_ 4 7 (lb_ 32 31) rfl rfl (ao_ HT_) ?_
  refine pd_ 5 8 (lb_ 32 63) rfl rfl (ao_ HT_) ?_
  refine pd_ 6 9 (lb_ 32 127) rfl rfl (ao_ HT_) ?_
  refine pu_ 7 10 (lb_ 32 255) rfl rfl (ao_ HT_) ?_
  refine pu_ 8 11 (lb_ 32 511) rfl rfl (ao_ HT_) ?_
  refine pd_ 9 12 (lb_ 32 1023) rfl rfl (ao_ HT_) ?_
  refine pd_ 10 13 (lb_ 32 2047) rfl rfl (ao_ HT_) ?_
  refine pd_ 11 14 (lb_ 32 4095) rfl rfl (ao_ HT_) ?_
  refine pd_ 12 15 (lb_ 32 8191) rfl rfl (ao_ HT_) ?_
  refine pd_ 13 16 (lb_ 32 16383) rfl rfl (ao_ HT_) ?_
  refine pd_ 14 17 (lb_ 32 32767) rfl rfl (ao_ HT_) ?_
  refine pu_ 15 18 (lb_ 32 65535) rfl rfl (ao_ HT_) ?_
  refine pu_ 16 19 (lb_ 32 131071) rfl rfl (ao_ HT_) ?_
  refine pd_ 17 20 (lb_ 32 262143) rfl rfl (ao_ HT_) ?_
  refine pd_ 18 21 (lb_ 32 524287) rfl rfl (ao_ HT_) ?_
  refine pd_ 19 22 (lb_ 32 1048575) rfl rfl (ao_ HT_) ?_
  refine pu_ 20 23 (lb_ 32 2097151) rfl rfl (ao_ HT_) ?_
  refine pu_ 21 24 (lb_ 32 4194303) rfl rfl (ao_ HT_) ?_
  refine pd_ 22 25 (lb_ 32 8388607) rfl rfl (ao_ HT_) ?_
  refine pd_ 23 26 (lb_ 32 16777215) rfl rfl (ao_ HT_) ?_
  refine pd_ 24 27 (lb_ 32 33554431) rfl rfl (ao_ HT_) ?_
  refine pu_ 25 28 (lb_ 32 67108863) rfl rfl (ao_ HT_) ?_
  refine pu_ 26 29 (lb_ 32 134217727) rfl rfl (ao_ HT_) ?_
  refine pd_ 27 30 (lb_ 32 268435455) rfl rfl (ao_ HT_) ?_
  refine pd_ 28 31 (lb_ 32 536870911) rfl rfl (ao_ HT_) ?_
  refine pd_ 29 32 (lb_ 32 1073741823) rfl rfl (ao_ HT_) ?_
  refine pu_ 30 33 (lb_ 32 2147483647) rfl rfl (ao_ HT_) ?_
  refine pu_ 31 2 (lb_ 32 4294967295) rfl rfl (ao_ HT_) ?_
  refine done_ (done_of HT_.out (by kernel_rfl)) ?_
  try go_wp2
  go_ret
  exact ⟨by first | rfl | (simp [errW_none, errW_some] <;> rfl) | (simp [*, errW_none, errW_some] <;> rfl), bh_ HB⟩

end Go.Proofs.YtlcablcpcbmgeaaGreatDoor.P
