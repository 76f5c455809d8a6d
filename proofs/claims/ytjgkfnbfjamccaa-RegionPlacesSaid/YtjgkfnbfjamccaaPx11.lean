/- Laid by a program of this session's own (wip/wprint.py, over the kit's print.py): functions of the given program as plain Lean functions, and that the program's calls come to their answers. -/
import Derived.Test.YtjgkfnbfjamccaaPx0
import Derived.Test.YtjgkfnbfjamccaaPx1
import Derived.Test.YtjgkfnbfjamccaaPx3
import Derived.Test.YtjgkfnbfjamccaaPx6
import Derived.Test.YtjgkfnbfjamccaaPx7
import Derived.Test.YtjgkfnbfjamccaaPx8
import Derived.Test.YtjgkfnbfjamccaaPx9
import Derived.Test.YtjgkfnbfjamccaaPx10
namespace Go.Proofs.Ytjgkfnbfjamccaa.P
open Go.RowKit Go.Proofs.YtjgkfnbfjamccaaW.PrintWords Go.Proofs.YtjgkfnbfjamccaaW.PrintLast Go.Proofs.YtjgkfnbfjamccaaW.PrintMore
attribute [local go_sem] max2_int min2_int max_two min_two max_three min_three max_four min_four   -- for this text's walks alone
set_option linter.unusedVariables false
set_option linter.unusedSimpArgs false

attribute [local go_sem high] eqA26
/-! ### salvorlaw16_RegionRuns: function 3 -/
def salvorlaw16_RegionRuns.g (k : Nat)  : Option (Bool) := (region_New.f 10).bind fun t157 => ((region_Set.f k t157 4 2 43).bind fun t160 => ((region_First.f k t160 63 1).bind fun bt163 => ((region_Last.f k t160 63 10).bind fun bt168 => (if (t160.length : Int) = 3 then (if 1 < (t160.length : Int) then (if (((rd_T26 t160 1).f0) == 4 && (((rd_T26 t160 1).f1) == 2 && (((rd_T26 t160 1).f2) == 43))) = true then ((region_End.f k t160).bind fun t174 => (if t174 = 10 then ((region_Count.f k t160 (([43] : List Int))).bind fun t178 => (if t178 = 2 then ((region_Count.f k t160 ([] : List Int)).bind fun t179 => (if t179 = 10 then (if bt163.2.2.2 = true then (if (bt163.1 == 1 && (bt163.2.1 == 3 && (bt163.2.2.1 == 63))) = true then (if bt168.2.2.2 = true then (if bt168.1 = 6 then ((region_May.f k ([] : List (S26))).bind fun t180 => (some t180)) else (some false)) else (some false)) else (some false)) else (some false)) else (some false))) else (some false))) else (some false))) else (some false)) else (none)) else (some false)))))
theorem salvorlaw16_RegionRuns.gmono : ∀ k, LeO (salvorlaw16_RegionRuns.g k ) (salvorlaw16_RegionRuns.g (k + 1) ) := by
 intro  k
 unfold salvorlaw16_RegionRuns.g
 repeat' first
   | (with_reducible exact region_Count.mono _ _ _)
   | (with_reducible exact region_End.mono _ _)
   | (with_reducible exact region_First.mono _ _ _ _)
   | (with_reducible exact region_Last.mono _ _ _ _)
   | (with_reducible exact region_May.mono _ _)
   | (with_reducible exact region_Set.mono _ _ _ _ _)
   | (with_reducible exact LeO.refl _)
   | (with_reducible exact LeO.none _)
   | (with_reducible refine LeO.ite ?_ ?_)
   | (with_reducible refine LeO.bind ?_ (fun _ => ?_))
   | exact region_Count.mono _ _ _
   | exact region_End.mono _ _
   | exact region_First.mono _ _ _ _
   | exact region_Last.mono _ _ _ _
   | exact region_May.mono _ _
   | exact region_Set.mono _ _ _ _ _
   | exact LeO.none _
   | refine LeO.ite ?_ ?_
   | refine LeO.bind ?_ (fun _ => ?_)
set_option maxHeartbeats 8000000 in
set_option maxRecDepth 100000 in
theorem salvorlaw16_RegionRuns.callsT (k : Nat)  (r : Bool) (w : World) (h : salvorlaw16_RegionRuns.g k  = some r) (hrt : r = true) :
  Calls Try.prog 3 #[] w fun e w' => e = .returned (.bool r) ∧ Below w.heap.size w w' := by
 have HT := Aside0.mk hrt
 clear hrt
 have hu26 := Try.underlying26
 have HB := Aside0.mk (Below.refl w.heap.size w)
 have H : ((region_New.f 10).bind fun t157 => ((region_Set.f k t157 4 2 43).bind fun t160 => ((region_First.f k t160 63 1).bind fun bt163 => ((region_Last.f k t160 63 10).bind fun bt168 => (if (t160.length : Int) = 3 then (if 1 < (t160.length : Int) then (if (((rd_T26 t160 1).f0) == 4 && (((rd_T26 t160 1).f1) == 2 && (((rd_T26 t160 1).f2) == 43))) = true then ((region_End.f k t160).bind fun t174 => (if t174 = 10 then ((region_Count.f k t160 (([43] : List Int))).bind fun t178 => (if t178 = 2 then ((region_Count.f k t160 ([] : List Int)).bind fun t179 => (if t179 = 10 then (if bt163.2.2.2 = true then (if (bt163.1 == 1 && (bt163.2.1 == 3 && (bt163.2.2.1 == 63))) = true then (if bt168.2.2.2 = true then (if bt168.1 = 6 then ((region_May.f k ([] : List (S26))).bind fun t180 => (some t180)) else (some false)) else (some false)) else (some false)) else (some false)) else (some false))) else (some false))) else (some false))) else (some false)) else (none)) else (some false)))))) = some r := h
 clear h
 replace H := Option.bind_eq_some_iff.mp H
 obtain ⟨t157, A10, H⟩ := H
 replace H : ((region_Set.f k t157 4 2 43).bind fun t160 => ((region_First.f k t160 63 1).bind fun bt163 => ((region_Last.f k t160 63 10).bind fun bt168 => (if (t160.length : Int) = 3 then (if 1 < (t160.length : Int) then (if (((rd_T26 t160 1).f0) == 4 && (((rd_T26 t160 1).f1) == 2 && (((rd_T26 t160 1).f2) == 43))) = true then ((region_End.f k t160).bind fun t174 => (if t174 = 10 then ((region_Count.f k t160 (([43] : List Int))).bind fun t178 => (if t178 = 2 then ((region_Count.f k t160 ([] : List Int)).bind fun t179 => (if t179 = 10 then (if bt163.2.2.2 = true then (if (bt163.1 == 1 && (bt163.2.1 == 3 && (bt163.2.2.1 == 63))) = true then (if bt168.2.2.2 = true then (if bt168.1 = 6 then ((region_May.f k ([] : List (S26))).bind fun t180 => (some t180)) else (some false)) else (some false)) else (some false)) else (some false)) else (some false))) else (some false))) else (some false))) else (some false)) else (none)) else (some false))))) = some r := H
 have A1 := Aside0.mk A10
 clear A10
 replace H := Option.bind_eq_some_iff.mp H
 obtain ⟨t160, A20, H⟩ := H
 replace H : ((region_First.f k t160 63 1).bind fun bt163 => ((region_Last.f k t160 63 10).bind fun bt168 => (if (t160.length : Int) = 3 then (if 1 < (t160.length : Int) then (if (((rd_T26 t160 1).f0) == 4 && (((rd_T26 t160 1).f1) == 2 && (((rd_T26 t160 1).f2) == 43))) = true then ((region_End.f k t160).bind fun t174 => (if t174 = 10 then ((region_Count.f k t160 (([43] : List Int))).bind fun t178 => (if t178 = 2 then ((region_Count.f k t160 ([] : List Int)).bind fun t179 => (if t179 = 10 then (if bt163.2.2.2 = true then (if (bt163.1 == 1 && (bt163.2.1 == 3 && (bt163.2.2.1 == 63))) = true then (if bt168.2.2.2 = true then (if bt168.1 = 6 then ((region_May.f k ([] : List (S26))).bind fun t180 => (some t180)) else (some false)) else (some false)) else (some false)) else (some false)) else (some false))) else (some false))) else (some false))) else (some false)) else (none)) else (some false)))) = some r := H
 have A2 := Aside0.mk A20
 clear A20
 replace H := Option.bind_eq_some_iff.mp H
 obtain ⟨⟨t163, t164, t165, t166⟩, A30, H⟩ := H
 replace H : ((region_Last.f k t160 63 10).bind fun bt168 => (if (t160.length : Int) = 3 then (if 1 < (t160.length : Int) then (if (((rd_T26 t160 1).f0) == 4 && (((rd_T26 t160 1).f1) == 2 && (((rd_T26 t160 1).f2) == 43))) = true then ((region_End.f k t160).bind fun t174 => (if t174 = 10 then ((region_Count.f k t160 (([43] : List Int))).bind fun t178 => (if t178 = 2 then ((region_Count.f k t160 ([] : List Int)).bind fun t179 => (if t179 = 10 then (if t166 = true then (if (t163 == 1 && (t164 == 3 && (t165 == 63))) = true then (if bt168.2.2.2 = true then (if bt168.1 = 6 then ((region_May.f k ([] : List (S26))).bind fun t180 => (some t180)) else (some false)) else (some false)) else (some false)) else (some false)) else (some false))) else (some false))) else (some false))) else (some false)) else (none)) else (some false))) = some r := H
 have A3 := Aside0.mk A30
 clear A30
 replace H := Option.bind_eq_some_iff.mp H
 obtain ⟨⟨t168, t169, t170, t171⟩, A40, H⟩ := H
 replace H : (if (t160.length : Int) = 3 then (if 1 < (t160.length : Int) then (if (((rd_T26 t160 1).f0) == 4 && (((rd_T26 t160 1).f1) == 2 && (((rd_T26 t160 1).f2) == 43))) = true then ((region_End.f k t160).bind fun t174 => (if t174 = 10 then ((region_Count.f k t160 (([43] : List Int))).bind fun t178 => (if t178 = 2 then ((region_Count.f k t160 ([] : List Int)).bind fun t179 => (if t179 = 10 then (if t166 = true then (if (t163 == 1 && (t164 == 3 && (t165 == 63))) = true then (if t171 = true then (if t168 = 6 then ((region_May.f k ([] : List (S26))).bind fun t180 => (some t180)) else (some false)) else (some false)) else (some false)) else (some false)) else (some false))) else (some false))) else (some false))) else (some false)) else (none)) else (some false)) = some r := H
 have A4 := Aside0.mk A40
 clear A40
 by_cases c5 : (t160.length : Int) = 3
 ·rw [if_pos c5] at H
  have c5b0 : ((t160.length : Int) == 3) = true := beq_iff_eq.mpr c5
  have c5b1 : ((t160.length : Int) != 3) = false := bne_eq_false_iff_eq.mpr c5
  clear c5
  by_cases c6 : 1 < (t160.length : Int)
  ·rw [if_pos c6] at H
   have c6b0 : decide (1 < (t160.length : Int)) = true := decide_eq_true c6
   have c6b1 : decide (1 < t160.length) = true := decide_eq_true (by omega)
   clear c6
   by_cases c7 : (((rd_T26 t160 1).f0) == 4 && (((rd_T26 t160 1).f1) == 2 && (((rd_T26 t160 1).f2) == 43))) = true
   ·rw [if_pos c7] at H
    have c7b0 : (((rd_T26 t160 1).f0) == 4 && (((rd_T26 t160 1).f1) == 2 && (((rd_T26 t160 1).f2) == 43))) = true := c7
    (try (have c7b1 : decide (((rd_T26 t160 1).f0) = 4 && (((rd_T26 t160 1).f1) == 2 && (((rd_T26 t160 1).f2) == 43))) = true := by simpa using c7))
    (try (have c7b2 : (((rd_T26 t160 1).f0) == 4 && (((rd_T26 t160 1).f1) == 2 && (((rd_T26 t160 1).f2) == 43))) = true := by simpa using c7))
    clear c7
    replace H := Option.bind_eq_some_iff.mp H
    obtain ⟨t174, A80, H⟩ := H
    replace H : (if t174 = 10 then ((region_Count.f k t160 (([43] : List Int))).bind fun t178 => (if t178 = 2 then ((region_Count.f k t160 ([] : List Int)).bind fun t179 => (if t179 = 10 then (if t166 = true then (if (t163 == 1 && (t164 == 3 && (t165 == 63))) = true then (if t171 = true then (if t168 = 6 then ((region_May.f k ([] : List (S26))).bind fun t180 => (some t180)) else (some false)) else (some false)) else (some false)) else (some false)) else (some false))) else (some false))) else (some false)) = some r := H
    have A8 := Aside0.mk A80
    clear A80
    by_cases c9 : t174 = 10
    ·rw [if_pos c9] at H
     have c9b0 : (t174 == 10) = true := beq_iff_eq.mpr c9
     have c9b1 : (t174 != 10) = false := bne_eq_false_iff_eq.mpr c9
     clear c9
     obtain ⟨y175, hy175⟩ : ∃ y_ : List Int, y_ = (([43] : List Int)) := ⟨_, rfl⟩
     replace H : ((region_Count.f k t160 y175).bind fun t178 => (if t178 = 2 then ((region_Count.f k t160 ([] : List Int)).bind fun t179 => (if t179 = 10 then (if t166 = true then (if (t163 == 1 && (t164 == 3 && (t165 == 63))) = true then (if t171 = true then (if t168 = 6 then ((region_May.f k ([] : List (S26))).bind fun t180 => (some t180)) else (some false)) else (some false)) else (some false)) else (some false)) else (some false))) else (some false))) = some r := by first | (rw [hy175]; with_reducible exact H) | (have H2_ := (Option.bind_some _ _).symm.trans H; rw [hy175]; with_reducible exact H2_) | (have H2_ := (Option.bind_some _ _).symm.trans H; with_reducible exact H2_) | with_reducible exact H | (rw [hy175]; exact H) | exact H
     have Ny175 := Aside0.mk hy175
     clear hy175
     replace H := Option.bind_eq_some_iff.mp H
     obtain ⟨t178, A100, H⟩ := H
     replace H : (if t178 = 2 then ((region_Count.f k t160 ([] : List Int)).bind fun t179 => (if t179 = 10 then (if t166 = true then (if (t163 == 1 && (t164 == 3 && (t165 == 63))) = true then (if t171 = true then (if t168 = 6 then ((region_May.f k ([] : List (S26))).bind fun t180 => (some t180)) else (some false)) else (some false)) else (some false)) else (some false)) else (some false))) else (some false)) = some r := H
     have A10 := Aside0.mk A100
     clear A100
     by_cases c11 : t178 = 2
     ·rw [if_pos c11] at H
      have c11b0 : (t178 == 2) = true := beq_iff_eq.mpr c11
      have c11b1 : (t178 != 2) = false := bne_eq_false_iff_eq.mpr c11
      clear c11
      replace H := Option.bind_eq_some_iff.mp H
      obtain ⟨t179, A120, H⟩ := H
      replace H : (if t179 = 10 then (if t166 = true then (if (t163 == 1 && (t164 == 3 && (t165 == 63))) = true then (if t171 = true then (if t168 = 6 then ((region_May.f k ([] : List (S26))).bind fun t180 => (some t180)) else (some false)) else (some false)) else (some false)) else (some false)) else (some false)) = some r := H
      have A12 := Aside0.mk A120
      clear A120
      by_cases c13 : t179 = 10
      ·rw [if_pos c13] at H
       have c13b0 : (t179 == 10) = true := beq_iff_eq.mpr c13
       have c13b1 : (t179 != 10) = false := bne_eq_false_iff_eq.mpr c13
       clear c13
       by_cases c14 : t166 = true
       ·subst c14
        have H1 : (if (t163 == 1 && (t164 == 3 && (t165 == 63))) = true then (if t171 = true then (if t168 = 6 then ((region_May.f k ([] : List (S26))).bind fun t180 => (some t180)) else (some false)) else (some false)) else (some false)) = some r := by rw [if_pos rfl] at H; exact H
        clear H
        have H := H1
        clear H1
        by_cases c15 : (t163 == 1 && (t164 == 3 && (t165 == 63))) = true
        ·rw [if_pos c15] at H
         have c15b0 : (t163 == 1 && (t164 == 3 && (t165 == 63))) = true := c15
         (try (have c15b1 : decide (t163 = 1 && (t164 == 3 && (t165 == 63))) = true := by simpa using c15))
         (try (have c15b2 : (t163 == 1 && (t164 == 3 && (t165 == 63))) = true := by simpa using c15))
         clear c15
         by_cases c16 : t171 = true
         ·subst c16
          have H1 : (if t168 = 6 then ((region_May.f k ([] : List (S26))).bind fun t180 => (some t180)) else (some false)) = some r := by rw [if_pos rfl] at H; exact H
          clear H
          have H := H1
          clear H1
          by_cases c17 : t168 = 6
          ·rw [if_pos c17] at H
           have c17b0 : (t168 == 6) = true := beq_iff_eq.mpr c17
           have c17b1 : (t168 != 6) = false := bne_eq_false_iff_eq.mpr c17
           clear c17
           replace H := Option.bind_eq_some_iff.mp H
           obtain ⟨t180, A180, H⟩ := H
           replace H : (some t180) = some r := H
           have A18 := Aside0.mk A180
           clear A180
           obtain rfl := Option.some.inj H
           go_enter Try.func3, Try.ntmps3
           go_wp2_with (first | ((with_reducible refine gate_callee (f := 11) rfl ?_); refine gl_ (some 6) rfl rfl Try.func11 (by kernel_rfl) rfl #[.int .i64 10] rfl ?_; (with_reducible refine (region_New.calls 10 t157 _ A1.out).mono ?_); rintro e w19 ⟨v158, rfl, ho0, hb⟩; refine ⟨_, rfl, ?_⟩; have HO159 := Aside0.mk (Kd.R_lower ho0 (below_size (bh_ HB))); replace HB := bs_ HB hb; (try clear hb); (try clear hb2); (try clear hk); (try clear hi); (try clear ho0); obtain ⟨Ao20, co20, eo20⟩ := Kd.R_slice HO159.out; subst eo20) | ((with_reducible refine gate_callee (f := 10) rfl ?_); refine gl_ (some 7) rfl rfl Try.func10 (by kernel_rfl) rfl #[.slice Ao20 t157.length co20, .int .i64 4, .int .i64 2, .int .u8 43] rfl ?_; (with_reducible refine (region_Set.calls k _ _ t157 4 2 43 t160 _ ?side1 ?side2 A2.out).mono ?_); (case side1 => repeat (first | exact (Kd.R_reads' HO159.out).2.2 | (with_reducible refine Kd.C_alloc ?_ _) | (with_reducible refine Kd.C_drewN ?_ _) | (with_reducible refine Kd.C_drew ?_))); (case side2 => exact (Kd.R_reads' HO159.out).2.1); rintro e w21 ⟨v161, rfl, ho0, hb⟩; refine ⟨_, rfl, ?_⟩; have n0_ := Aside0.mk (Kd.R_elder' (by (with_reducible repeat (first | apply Kd.R_alloc | apply Kd.R_drewN | apply Kd.R_drew)); exact HO159.out) (Kd.R_base ho0) hb); have n1_ := Aside0.mk (Kd.R_lower (Kd.R_new' ho0 (Kd.R_lt (by (with_reducible repeat (first | apply Kd.R_alloc | apply Kd.R_drewN | apply Kd.R_drew)); exact HO159.out))) (below_size (bh_ HB))); have n2_ := bs_ HB hb; clear HO159; clear HB; have HO159 := n0_; have HO162 := n1_; have HB := n2_; clear n0_ n1_ n2_; (try clear hb); (try clear hb2); (try clear hk); (try clear hi); (try clear ho0); obtain ⟨Ao22, co22, eo22⟩ := Kd.R_slice HO162.out; subst eo22) | ((with_reducible refine gate_callee (f := 12) rfl ?_); refine gl_ (some 10) rfl rfl Try.func12 (by kernel_rfl) rfl #[.slice Ao22 t160.length co22, .int .u8 63, .int .i64 1] rfl ?_; (with_reducible refine (region_First.calls k _ _ t160 63 1 t163 t164 t165 true _ ?side1 ?side2 A3.out).mono ?_); (case side1 => repeat (first | exact (Kd.R_reads' HO162.out).2.2 | (with_reducible refine Kd.C_alloc ?_ _) | (with_reducible refine Kd.C_drewN ?_ _) | (with_reducible refine Kd.C_drew ?_))); (case side2 => exact (Kd.R_reads' HO162.out).2.1); rintro e w23 ⟨rfl, hb⟩; refine ⟨_, rfl, ?_⟩; have n0_ := Aside0.mk (Kd.R_below (by (with_reducible repeat (first | apply Kd.R_alloc | apply Kd.R_drewN | apply Kd.R_drew)); exact HO159.out) hb); have n1_ := Aside0.mk (Kd.R_below (by (with_reducible repeat (first | apply Kd.R_alloc | apply Kd.R_drewN | apply Kd.R_drew)); exact HO162.out) hb); have n2_ := bs_ HB hb; clear HO159; clear HO162; clear HB; have HO159 := n0_; have HO162 := n1_; have HB := n2_; clear n0_ n1_ n2_; (try clear hb)) | ((with_reducible refine gate_dst (N := 2) rfl ?_); (try (refine gate_guard (by rfl) ?_; dsimp only)); refine box_e 2 #[.int .i64 0, .int .i64 0, .int .u8 0] 26 ?_; intro gb167 hg w24 hbox hb; have n0_ := Aside0.mk (Kd.R_below (Kd.R_elderB (by (with_reducible repeat (first | apply Kd.R_alloc | apply Kd.R_drewN | apply Kd.R_drew)); exact HO159.out) gb167 (Nat.le_of_eq hg.symm)) hb); have n1_ := Aside0.mk (Kd.R_below (Kd.R_elderB (by (with_reducible repeat (first | apply Kd.R_alloc | apply Kd.R_drewN | apply Kd.R_drew)); exact HO162.out) gb167 (Nat.le_of_eq hg.symm)) hb); have n2_ := bs_ HB hb; have n3_ := Aside0.mk hbox; have n4_ := bg_ HB hg; have n5_ := bg_ HB hg; clear HO159; clear HO162; clear HB; have HO159 := n0_; have HO162 := n1_; have HB := n2_; have BK167 := n3_; have GW167 := n4_; have GE167 := n5_; clear n0_ n1_ n2_ n3_ n4_ n5_; clear hb hbox hg; obtain ⟨hcz25_0, hcz25_1, hcz25_2, hfz25_0, hfz25_1, hfz25_2⟩ := c3_ BK167) | ((with_reducible refine gate_callee (f := 13) rfl ?_); refine gl_ (some 15) rfl rfl Try.func13 (by kernel_rfl) rfl #[.slice Ao22 t160.length co22, .int .u8 63, .int .i64 10] rfl ?_; (with_reducible refine (region_Last.calls k _ _ t160 63 10 t168 t169 t170 true _ ?side1 ?side2 A4.out).mono ?_); (case side1 => refine (Kd.R_reads' (e := 26) (base := w.heap.size) (ok := fun k_ => ((True ∧ some k_ ≠ (.slice Ao20 t157.length co20 : Value).ownBlock) ∧ k_ ≠ gb167)) (n := t160.length) (c := co22) ?_).2.2; exact (by (with_reducible repeat (first | apply Kd.R_alloc | apply Kd.R_drewN | apply Kd.R_drew)); exact (Kd.R_mono (Kd.R_far (p := ⟨gb167, 2, none⟩) (Kd.R_far (p := ⟨gb167, 1, none⟩) (Kd.R_far (p := ⟨gb167, 0, none⟩) (Kd.R_mono HO162.out (fun k_ hk => (⟨hk, hk.2⟩ : _ ∧ k_ ≠ gb167))) (fun _ hk => hk.2) (.int .i64 t163)) (fun _ hk => hk.2) (.int .i64 t164)) (fun _ hk => hk.2) (.int .u8 t165)) (fun _ h_ => h_.1)))); (case side2 => exact (Kd.R_reads' HO162.out).2.1); rintro e w26 ⟨rfl, hb⟩; refine ⟨_, rfl, ?_⟩; have n0_ := Aside0.mk (Kd.R_below (by (with_reducible repeat (first | apply Kd.R_alloc | apply Kd.R_drewN | apply Kd.R_drew)); exact (Kd.R_mono (Kd.R_far (p := ⟨gb167, 2, none⟩) (Kd.R_far (p := ⟨gb167, 1, none⟩) (Kd.R_far (p := ⟨gb167, 0, none⟩) (Kd.R_mono HO159.out (fun k_ hk => (⟨hk, hk.2⟩ : _ ∧ k_ ≠ gb167))) (fun _ hk => hk.2) (.int .i64 t163)) (fun _ hk => hk.2) (.int .i64 t164)) (fun _ hk => hk.2) (.int .u8 t165)) (fun _ h_ => h_.1))) hb); have n1_ := Aside0.mk (Kd.R_below (by (with_reducible repeat (first | apply Kd.R_alloc | apply Kd.R_drewN | apply Kd.R_drew)); exact (Kd.R_mono (Kd.R_far (p := ⟨gb167, 2, none⟩) (Kd.R_far (p := ⟨gb167, 1, none⟩) (Kd.R_far (p := ⟨gb167, 0, none⟩) (Kd.R_mono HO162.out (fun k_ hk => (⟨hk, hk.2⟩ : _ ∧ k_ ≠ gb167))) (fun _ hk => hk.2) (.int .i64 t163)) (fun _ hk => hk.2) (.int .i64 t164)) (fun _ hk => hk.2) (.int .u8 t165)) (fun _ h_ => h_.1))) hb); have n2_ := Aside0.mk (blk_below (g := gb167) (o := .cells #[.int .i64 t163, .int .i64 t164, .int .u8 t165] 26 (0, 0)) (bp_ BK167) hb); have n3_ := bs_ HB hb; clear HO159; clear HO162; clear BK167; clear HB; have HO159 := n0_; have HO162 := n1_; have BK167 := n2_; have HB := n3_; clear n0_ n1_ n2_ n3_; (try clear hb)) | ((with_reducible refine gate_dst (N := 4) rfl ?_); (try (refine gate_guard (by rfl) ?_; dsimp only)); refine box_e 4 #[.int .i64 0, .int .i64 0, .int .u8 0] 26 ?_; intro gb172 hg w27 hbox hb; have n0_ := Aside0.mk (Kd.R_below (Kd.R_elderB (by (with_reducible repeat (first | apply Kd.R_alloc | apply Kd.R_drewN | apply Kd.R_drew)); exact HO159.out) gb172 (Nat.le_of_eq hg.symm)) hb); have n1_ := Aside0.mk (Kd.R_below (Kd.R_elderB (by (with_reducible repeat (first | apply Kd.R_alloc | apply Kd.R_drewN | apply Kd.R_drew)); exact HO162.out) gb172 (Nat.le_of_eq hg.symm)) hb); have n2_ := bb_ BK167 hb; have n3_ := bs_ HB hb; have n4_ := Aside0.mk hbox; have n5_ := bg_ HB hg; have n6_ := bg_ HB hg; have n7_ := bn_ BK167 hg; have n8_ := bm_ BK167 hg; clear HO159; clear HO162; clear BK167; clear HB; have HO159 := n0_; have HO162 := n1_; have BK167 := n2_; have HB := n3_; have BK172 := n4_; have GW172 := n5_; have GE172 := n6_; have NB167_172 := n7_; have NB172_167 := n8_; clear n0_ n1_ n2_ n3_ n4_ n5_ n6_ n7_ n8_; clear hb hbox hg; have hnb28 := NB172_167.out; have hnc28 := NB167_172.out; obtain ⟨hcz29_0, hcz29_1, hcz29_2, hfz29_0, hfz29_1, hfz29_2⟩ := c3_ BK172; have p173 : 0 ≤ (1 : Int) := (by omega); have q173 : 1 < (t160.length : Int) := of_decide_eq_true (by first | (with_reducible assumption) | assumption); obtain ⟨ad173, e173, hx173_0, hx173_1, hx173_2⟩ := at_T26 (Kd.R_reads' HO162.out).2.2 1 p173 q173; cases e173; (try simp only [show (1 : Int).toNat = 1 from rfl, Nat.reduceMul, Nat.reduceEqDiff, Go.Addr.add, ↓reduceIte] at hx173_0); (try simp only [show (1 : Int).toNat = 1 from rfl, Nat.reduceMul, Nat.reduceEqDiff, Go.Addr.add, ↓reduceIte] at hx173_1); (try simp only [show (1 : Int).toNat = 1 from rfl, Nat.reduceMul, Nat.reduceEqDiff, Go.Addr.add, ↓reduceIte] at hx173_2); have qi173 : (1 < t160.length) = True := eq_true (by omega); (try rw [show ((1 : Int)).toNat = 1 from rfl] at hx173_0); (try rw [show 1 * 3 = 3 from rfl] at hx173_0); (try rw [show ((1 : Int)).toNat = 1 from rfl] at hx173_1); (try rw [show 1 * 3 = 3 from rfl] at hx173_1); (try rw [show ((1 : Int)).toNat = 1 from rfl] at hx173_2); (try rw [show 1 * 3 = 3 from rfl] at hx173_2); have hn173_0 : ad173.block ≠ gb172 := (by first | exact Kd.own_blk (Kd.R_ne HO162.out BK172.out (by decide)) | (have h_ := HO162.out.1 _ rfl; first | exact h_.2 | exact h_.1.2 | exact h_.2.2 | exact h_.1.1.2)); have hn173_1 : ad173.block ≠ gb172 := (by first | exact Kd.own_blk (Kd.R_ne HO162.out BK172.out (by decide)) | (have h_ := HO162.out.1 _ rfl; first | exact h_.2 | exact h_.1.2 | exact h_.2.2 | exact h_.1.1.2)); have hn173_2 : ad173.block ≠ gb172 := (by first | exact Kd.own_blk (Kd.R_ne HO162.out BK172.out (by decide)) | (have h_ := HO162.out.1 _ rfl; first | exact h_.2 | exact h_.1.2 | exact h_.2.2 | exact h_.1.1.2)); replace hx173_0 := (cell_far (p := ⟨gb172, 0, none⟩) (by first | (rw [add_block]; exact hn173_0) | (show (Addr.add _ _).block ≠ _; rw [add_block]; exact hn173_0) | exact hn173_0) (.int .i64 t168)).trans hx173_0; replace hx173_1 := (cell_far (p := ⟨gb172, 0, none⟩) (by first | (rw [add_block]; exact hn173_0) | (show (Addr.add _ _).block ≠ _; rw [add_block]; exact hn173_0) | exact hn173_0) (.int .i64 t168)).trans hx173_1; replace hx173_2 := (cell_far (p := ⟨gb172, 0, none⟩) (by first | (rw [add_block]; exact hn173_0) | (show (Addr.add _ _).block ≠ _; rw [add_block]; exact hn173_0) | exact hn173_0) (.int .i64 t168)).trans hx173_2; replace hx173_0 := (cell_far (p := ⟨gb172, 1, none⟩) (by first | (rw [add_block]; exact hn173_1) | (show (Addr.add _ _).block ≠ _; rw [add_block]; exact hn173_1) | exact hn173_1) (.int .i64 t169)).trans hx173_0; replace hx173_1 := (cell_far (p := ⟨gb172, 1, none⟩) (by first | (rw [add_block]; exact hn173_1) | (show (Addr.add _ _).block ≠ _; rw [add_block]; exact hn173_1) | exact hn173_1) (.int .i64 t169)).trans hx173_1; replace hx173_2 := (cell_far (p := ⟨gb172, 1, none⟩) (by first | (rw [add_block]; exact hn173_1) | (show (Addr.add _ _).block ≠ _; rw [add_block]; exact hn173_1) | exact hn173_1) (.int .i64 t169)).trans hx173_2; replace hx173_0 := (cell_far (p := ⟨gb172, 2, none⟩) (by first | (rw [add_block]; exact hn173_2) | (show (Addr.add _ _).block ≠ _; rw [add_block]; exact hn173_2) | exact hn173_2) (.int .u8 t170)).trans hx173_0; replace hx173_1 := (cell_far (p := ⟨gb172, 2, none⟩) (by first | (rw [add_block]; exact hn173_2) | (show (Addr.add _ _).block ≠ _; rw [add_block]; exact hn173_2) | exact hn173_2) (.int .u8 t170)).trans hx173_1; replace hx173_2 := (cell_far (p := ⟨gb172, 2, none⟩) (by first | (rw [add_block]; exact hn173_2) | (show (Addr.add _ _).block ≠ _; rw [add_block]; exact hn173_2) | exact hn173_2) (.int .u8 t170)).trans hx173_2; clear hn173_0; clear hn173_1; clear hn173_2; replace p173 := eq_true p173; replace q173 := eq_true q173) | (go_at_call 14; (with_reducible refine (region_End.calls k _ _ t160 t174 _ ?side1 ?side2 A8.out).mono ?_); (case side1 => refine (Kd.R_reads' (e := 26) (base := w.heap.size) (ok := fun k_ => (((True ∧ some k_ ≠ (.slice Ao20 t157.length co20 : Value).ownBlock) ∧ k_ ≠ gb167) ∧ k_ ≠ gb172)) (n := t160.length) (c := co22) ?_).2.2; exact (by (with_reducible repeat (first | apply Kd.R_alloc | apply Kd.R_drewN | apply Kd.R_drew)); exact (Kd.R_mono (Kd.R_far (p := ⟨gb172, 2, none⟩) (Kd.R_far (p := ⟨gb172, 1, none⟩) (Kd.R_far (p := ⟨gb172, 0, none⟩) (Kd.R_mono HO162.out (fun k_ hk => (⟨hk, hk.2⟩ : _ ∧ k_ ≠ gb172))) (fun _ hk => hk.2) (.int .i64 t168)) (fun _ hk => hk.2) (.int .i64 t169)) (fun _ hk => hk.2) (.int .u8 t170)) (fun _ h_ => h_.1)))); (case side2 => exact (Kd.R_reads' HO162.out).2.1); rintro e w30 ⟨rfl, hb⟩; have n0_ := Aside0.mk (Kd.R_below (by (with_reducible repeat (first | apply Kd.R_alloc | apply Kd.R_drewN | apply Kd.R_drew)); exact (Kd.R_mono (Kd.R_far (p := ⟨gb172, 2, none⟩) (Kd.R_far (p := ⟨gb172, 1, none⟩) (Kd.R_far (p := ⟨gb172, 0, none⟩) (Kd.R_mono HO159.out (fun k_ hk => (⟨hk, hk.2⟩ : _ ∧ k_ ≠ gb172))) (fun _ hk => hk.2) (.int .i64 t168)) (fun _ hk => hk.2) (.int .i64 t169)) (fun _ hk => hk.2) (.int .u8 t170)) (fun _ h_ => h_.1))) hb); have n1_ := Aside0.mk (Kd.R_below (by (with_reducible repeat (first | apply Kd.R_alloc | apply Kd.R_drewN | apply Kd.R_drew)); exact (Kd.R_mono (Kd.R_far (p := ⟨gb172, 2, none⟩) (Kd.R_far (p := ⟨gb172, 1, none⟩) (Kd.R_far (p := ⟨gb172, 0, none⟩) (Kd.R_mono HO162.out (fun k_ hk => (⟨hk, hk.2⟩ : _ ∧ k_ ≠ gb172))) (fun _ hk => hk.2) (.int .i64 t168)) (fun _ hk => hk.2) (.int .i64 t169)) (fun _ hk => hk.2) (.int .u8 t170)) (fun _ h_ => h_.1))) hb); have n2_ := Aside0.mk (blk_below (g := gb167) (o := .cells #[.int .i64 t163, .int .i64 t164, .int .u8 t165] 26 (0, 0)) (bp_ BK167) hb); have n3_ := Aside0.mk (blk_below (g := gb172) (o := .cells #[.int .i64 t168, .int .i64 t169, .int .u8 t170] 26 (0, 0)) (bp_ BK172) hb); have n4_ := bs_ HB hb; clear HO159; clear HO162; clear BK167; clear BK172; clear HB; have HO159 := n0_; have HO162 := n1_; have BK167 := n2_; have BK172 := n3_; have HB := n4_; clear n0_ n1_ n2_ n3_ n4_; (try clear hb)) | ((with_reducible refine gate_dst (N := 35) rfl ?_); (try (refine gate_guard (by rfl) ?_; dsimp only)); refine Kd.R_lit (Kd.int .u8) _ 5 ?hg (N := 35) ?hd (xs := ([43] : List Int)) (inner := [.int .u8 43]) (ok := fun _ => True) (okp := fun _ => True) ?hr ?hp (fun _ hk => hk) trivial (Below.refl _ _) (Nat.le_refl _) (by simp) ?_; (case hd => rfl); (case hg => rfl); (case hr => first | (go_simp; done) | (go_simp; rfl)); (case hp => exact (Reps.one (show Kd.M (Kd.int .u8) _ _ _ 43 [.int .u8 43] from rfl) (Reps.none _ _))); intro v176 w31 ho32 hb hg_ hnew_; clear hg_ hnew_; (first | rw [← Ny175.out] at ho32 | (simp only [Int.reduceToNat] at ho32; rw [← Ny175.out] at ho32)); have n0_ := Aside0.mk (Kd.R_below (by (with_reducible repeat (first | apply Kd.R_alloc | apply Kd.R_drewN | apply Kd.R_drew)); exact HO159.out) hb); have n1_ := Aside0.mk (Kd.R_below (by (with_reducible repeat (first | apply Kd.R_alloc | apply Kd.R_drewN | apply Kd.R_drew)); exact HO162.out) hb); have n2_ := Aside0.mk (Kd.R_lower ho32 (below_size (bh_ HB))); have n3_ := bb_ BK167 hb; have n4_ := bb_ BK172 hb; have n5_ := bs_ HB hb; clear HO159; clear HO162; clear BK167; clear BK172; clear HB; have HO159 := n0_; have HO162 := n1_; have HO177 := n2_; have BK167 := n3_; have BK172 := n4_; have HB := n5_; clear n0_ n1_ n2_ n3_ n4_ n5_; clear hb ho32; obtain ⟨Ao33, co33, eo33⟩ := Kd.R_slice HO177.out; subst eo33) | (go_at_call 15; (with_reducible refine (region_Count.calls k _ _ t160 _ _ y175 t178 _ ?side1 ?side2 ?side3 ?side4 A10.out).mono ?_); (case side1 => repeat (first | exact (Kd.R_reads' HO162.out).2.2 | (with_reducible refine Kd.C_alloc ?_ _) | (with_reducible refine Kd.C_drewN ?_ _) | (with_reducible refine Kd.C_drew ?_))); (case side2 => exact (Kd.R_reads' HO162.out).2.1); (case side3 => repeat (first | exact (Kd.R_reads' HO177.out).2.2 | (with_reducible refine Kd.C_alloc ?_ _) | (with_reducible refine Kd.C_drewN ?_ _) | (with_reducible refine Kd.C_drew ?_))); (case side4 => exact (Kd.R_reads' HO177.out).2.1); rintro e w34 ⟨rfl, hb⟩; have n0_ := Aside0.mk (Kd.R_below (by (with_reducible repeat (first | apply Kd.R_alloc | apply Kd.R_drewN | apply Kd.R_drew)); exact HO159.out) hb); have n1_ := Aside0.mk (Kd.R_below (by (with_reducible repeat (first | apply Kd.R_alloc | apply Kd.R_drewN | apply Kd.R_drew)); exact HO162.out) hb); have n2_ := Aside0.mk (Kd.R_below (by (with_reducible repeat (first | apply Kd.R_alloc | apply Kd.R_drewN | apply Kd.R_drew)); exact HO177.out) hb); have n3_ := bb_ BK167 hb; have n4_ := bb_ BK172 hb; have n5_ := bs_ HB hb; clear HO159; clear HO162; clear HO177; clear BK167; clear BK172; clear HB; have HO159 := n0_; have HO162 := n1_; have HO177 := n2_; have BK167 := n3_; have BK172 := n4_; have HB := n5_; clear n0_ n1_ n2_ n3_ n4_ n5_; (try clear hb)) | (go_at_call 15; (refine (region_Count.calls k _ _ t160 _ _ ([] : List Int) t179 _ ?side1 ?side2 ?side3 ?side4 A12.out).mono ?_); (case side1 => repeat (first | exact (Kd.R_reads' HO162.out).2.2 | (with_reducible refine Kd.C_alloc ?_ _) | (with_reducible refine Kd.C_drewN ?_ _) | (with_reducible refine Kd.C_drew ?_))); (case side2 => exact (Kd.R_reads' HO162.out).2.1); (case side3 => exact Kd.C_nil _ _); (case side4 => exact Nat.le_refl _); rintro e w35 ⟨rfl, hb⟩; have n0_ := Aside0.mk (Kd.R_below (by (with_reducible repeat (first | apply Kd.R_alloc | apply Kd.R_drewN | apply Kd.R_drew)); exact HO159.out) hb); have n1_ := Aside0.mk (Kd.R_below (by (with_reducible repeat (first | apply Kd.R_alloc | apply Kd.R_drewN | apply Kd.R_drew)); exact HO162.out) hb); have n2_ := Aside0.mk (Kd.R_below (by (with_reducible repeat (first | apply Kd.R_alloc | apply Kd.R_drewN | apply Kd.R_drew)); exact HO177.out) hb); have n3_ := bb_ BK167 hb; have n4_ := bb_ BK172 hb; have n5_ := bs_ HB hb; clear HO159; clear HO162; clear HO177; clear BK167; clear BK172; clear HB; have HO159 := n0_; have HO162 := n1_; have HO177 := n2_; have BK167 := n3_; have BK172 := n4_; have HB := n5_; clear n0_ n1_ n2_ n3_ n4_ n5_; (try clear hb); obtain ⟨hcz36_0, hcz36_1, hcz36_2, hfz36_0, hfz36_1, hfz36_2⟩ := c3_ BK167; obtain ⟨hcz37_0, hcz37_1, hcz37_2, hfz37_0, hfz37_1, hfz37_2⟩ := c3_ BK172) | (go_at_call 16; (refine (region_May.calls k _ _ ([] : List (S26)) t180 _ ?side1 ?side2 A18.out).mono ?_); (case side1 => exact Kd.C_nil _ _); (case side2 => exact Nat.le_refl _); rintro e w38 ⟨rfl, hb⟩; have n0_ := Aside0.mk (Kd.R_below (by (with_reducible repeat (first | apply Kd.R_alloc | apply Kd.R_drewN | apply Kd.R_drew)); exact HO159.out) hb); have n1_ := Aside0.mk (Kd.R_below (by (with_reducible repeat (first | apply Kd.R_alloc | apply Kd.R_drewN | apply Kd.R_drew)); exact HO162.out) hb); have n2_ := Aside0.mk (Kd.R_below (by (with_reducible repeat (first | apply Kd.R_alloc | apply Kd.R_drewN | apply Kd.R_drew)); exact HO177.out) hb); have n3_ := bb_ BK167 hb; have n4_ := bb_ BK172 hb; have n5_ := bs_ HB hb; clear HO159; clear HO162; clear HO177; clear BK167; clear BK172; clear HB; have HO159 := n0_; have HO162 := n1_; have HO177 := n2_; have BK167 := n3_; have BK172 := n4_; have HB := n5_; clear n0_ n1_ n2_ n3_ n4_ n5_; (try clear hb)))
           go_ret
           exact ⟨by first | rfl | (simp [errW_none, errW_some] <;> rfl) | (simp [*, errW_none, errW_some] <;> rfl), bh_ HB⟩
          ·rw [if_neg c17] at H
           have c17b0 : (t168 == 6) = false := beq_eq_false_iff_ne.mpr c17
           have c17b1 : (t168 != 6) = true := bne_iff_ne.mpr c17
           exact absurd ((Option.some.inj H).trans HT.out) (by simp)
         ·replace c16 := Bool.eq_false_iff.mpr c16
          subst c16
          have H1 : (some false) = some r := by rw [if_neg (show ¬ (false = true) by decide)] at H; exact H
          clear H
          have H := H1
          clear H1
          exact absurd ((Option.some.inj H).trans HT.out) (by simp)
        ·rw [if_neg c15] at H
         have c15b0 : (t163 == 1 && (t164 == 3 && (t165 == 63))) = false := by simpa using c15
         (try (have c15b1 : decide (t163 = 1 && (t164 == 3 && (t165 == 63))) = false := by simpa using c15))
         (try (have c15b2 : (t163 == 1 && (t164 == 3 && (t165 == 63))) = false := by simpa using c15))
         (try (have c15b3 : ¬ (t163 = 1 && (t164 == 3 && (t165 == 63))) := by simpa using c15))
         clear c15
         exact absurd ((Option.some.inj H).trans HT.out) (by simp)
       ·replace c14 := Bool.eq_false_iff.mpr c14
        subst c14
        have H1 : (some false) = some r := by rw [if_neg (show ¬ (false = true) by decide)] at H; exact H
        clear H
        have H := H1
        clear H1
        exact absurd ((Option.some.inj H).trans HT.out) (by simp)
      ·rw [if_neg c13] at H
       have c13b0 : (t179 == 10) = false := beq_eq_false_iff_ne.mpr c13
       have c13b1 : (t179 != 10) = true := bne_iff_ne.mpr c13
       exact absurd ((Option.some.inj H).trans HT.out) (by simp)
     ·rw [if_neg c11] at H
      have c11b0 : (t178 == 2) = false := beq_eq_false_iff_ne.mpr c11
      have c11b1 : (t178 != 2) = true := bne_iff_ne.mpr c11
      exact absurd ((Option.some.inj H).trans HT.out) (by simp)
    ·rw [if_neg c9] at H
     have c9b0 : (t174 == 10) = false := beq_eq_false_iff_ne.mpr c9
     have c9b1 : (t174 != 10) = true := bne_iff_ne.mpr c9
     exact absurd ((Option.some.inj H).trans HT.out) (by simp)
   ·rw [if_neg c7] at H
    have c7b0 : (((rd_T26 t160 1).f0) == 4 && (((rd_T26 t160 1).f1) == 2 && (((rd_T26 t160 1).f2) == 43))) = false := by simpa using c7
    (try (have c7b1 : decide (((rd_T26 t160 1).f0) = 4 && (((rd_T26 t160 1).f1) == 2 && (((rd_T26 t160 1).f2) == 43))) = false := by simpa using c7))
    (try (have c7b2 : (((rd_T26 t160 1).f0) == 4 && (((rd_T26 t160 1).f1) == 2 && (((rd_T26 t160 1).f2) == 43))) = false := by simpa using c7))
    (try (have c7b3 : ¬ (((rd_T26 t160 1).f0) = 4 && (((rd_T26 t160 1).f1) == 2 && (((rd_T26 t160 1).f2) == 43))) := by simpa using c7))
    clear c7
    exact absurd ((Option.some.inj H).trans HT.out) (by simp)
  ·rw [if_neg c6] at H
   exact absurd H (by simp)
 ·rw [if_neg c5] at H
  have c5b0 : ((t160.length : Int) == 3) = false := beq_eq_false_iff_ne.mpr c5
  have c5b1 : ((t160.length : Int) != 3) = true := bne_iff_ne.mpr c5
  exact absurd ((Option.some.inj H).trans HT.out) (by simp)
def salvorlaw16_RegionRuns.f (k : Nat) : Option (Bool) := (salvorlaw16_RegionRuns.g k).bind fun b => if b = true then some true else none
theorem salvorlaw16_RegionRuns.mono : ∀ k, LeO (salvorlaw16_RegionRuns.f k) (salvorlaw16_RegionRuns.f (k + 1)) := fun k => LeO.bind (salvorlaw16_RegionRuns.gmono k) (fun _ => LeO.refl _)
theorem salvorlaw16_RegionRuns.calls (k : Nat) (r : Bool) (w : World) (h : salvorlaw16_RegionRuns.f k = some r) : Calls Try.prog 3 #[] w fun e w' => e = .returned (.bool r) ∧ Below w.heap.size w w' := by
  obtain ⟨b, hb, h1⟩ := Option.bind_eq_some_iff.mp h
  cases b with
  | false => simp at h1
  | true =>
    rw [if_pos rfl] at h1
    obtain rfl := Option.some.inj h1
    exact salvorlaw16_RegionRuns.callsT k true w hb rfl

/-! ### salvorlaw16_Few: function 17 -/
def salvorlaw16_Few.f (l0 : List (S26)) : Option (Bool) := some (decide ((l0.length : Int) ≤ 80))
set_option maxHeartbeats 8000000 in
set_option maxRecDepth 100000 in
theorem salvorlaw16_Few.calls (A0 : Option Addr) (c0 : Nat) (l0 : List (S26)) (r : Bool) (w : World) (hr0 : Kd.C k26 w A0 l0.length l0) (hc0 : l0.length ≤ c0) (h : salvorlaw16_Few.f l0 = some r) :
    Calls Try.prog 17 #[.slice A0 l0.length c0] w fun e w' => e = .returned (.bool r) ∧ Drawn0 w w' := by
  have HR0 := Aside0.mk hr0
  have HC0 := Aside0.mk hc0
  clear hr0 hc0
  have H : (some (decide ((l0.length : Int) ≤ 80))) = some r := h
  clear h
  obtain rfl := Option.some.inj H
  go_enter Try.func17, Try.ntmps17
  go_wp2
  go_ret
  exact ⟨by first | rfl | (simp; done) | (simp [*]; done), by repeat (first | exact Drawn0.refl _ | apply Drawn0.step)⟩

end Go.Proofs.Ytjgkfnbfjamccaa.P
