/- Laid by a program of this session's own (wip/wprint.py, over the kit's print.py): functions of the given program as plain Lean functions, and that the program's calls come to their answers. -/
import Derived.Test.YtjgkfnbfjamccaaPx0
import Derived.Test.YtjgkfnbfjamccaaPx7
import Derived.Test.YtjgkfnbfjamccaaPx15
import Derived.Test.YtjgkfnbfjamccaaPx16
import Derived.Test.YtjgkfnbfjamccaaPx17
import Derived.Test.YtjgkfnbfjamccaaPx18
import Derived.Test.YtjgkfnbfjamccaaPx23
import Derived.Test.YtjgkfnbfjamccaaPx24
namespace Go.Proofs.Ytjgkfnbfjamccaa.P
open Go.RowKit Go.Proofs.YtjgkfnbfjamccaaW.PrintWords Go.Proofs.YtjgkfnbfjamccaaW.PrintLast Go.Proofs.YtjgkfnbfjamccaaW.PrintMore
attribute [local go_sem] max2_int min2_int max_two min_two max_three min_three max_four min_four   -- for this text's walks alone
set_option linter.unusedVariables false
set_option linter.unusedSimpArgs false

/-! ### salvorlaw16_RegionSets: function 4 -/
def salvorlaw16_RegionSets.j0 : Nat → List (S26) → Int → Int → Int → List Int → Bool → Option (Bool)
  | 0, _, _, _, _, _, _ => none
  | k + 1, x0, x1, x2, x3, x4, x18 => if x18 = true then ((salvorlaw16_RegionRuns.f k).bind fun t228 => (some t228)) else ((region_Set.f k x0 x1 x2 x3).bind fun t229 => ((salvorref16_Set.f k x0 x1 x2 x3).bind fun t232 => ((salvorref16_SameRegions.f k t229 t232).bind fun t235 => (if t235 = true then ((region_Count.f k x0 x4).bind fun t236 => ((salvorref16_Count.f k x0 x4).bind fun t237 => (if t236 = t237 then ((salvorlaw16_RegionRuns.f k).bind fun t238 => (some t238)) else (some false)))) else (some false)))))
def salvorlaw16_RegionSets.f (k : Nat) (l0 : List (S26)) (a1 : Int) (a2 : Int) (a3 : Int) (l4 : List Int) : Option (Bool) := (salvorlaw16_Few.f l0).bind fun t227 => (if t227 = true then (salvorlaw16_RegionSets.j0 k l0 a1 a2 a3 l4 (decide ((l4.length : Int) > 20))) else (salvorlaw16_RegionSets.j0 k l0 a1 a2 a3 l4 true))
theorem salvorlaw16_RegionSets.mono_l : ∀ k, (∀ y0 y1 y2 y3 y4 y5, LeO (salvorlaw16_RegionSets.j0 k y0 y1 y2 y3 y4 y5) (salvorlaw16_RegionSets.j0 (k + 1) y0 y1 y2 y3 y4 y5))
  | 0 => fun _ _ _ _ _ _ r h => by simp [salvorlaw16_RegionSets.j0] at h
  | k + 1 => by
    have ih0 := salvorlaw16_RegionSets.mono_l k
    · intro y0 y1 y2 y3 y4 y5
      unfold salvorlaw16_RegionSets.j0
      repeat' first
      | (with_reducible exact ih0 _ _ _ _ _ _)
      | (with_reducible exact region_Count.mono _ _ _)
      | (with_reducible exact region_Set.mono _ _ _ _ _)
      | (with_reducible exact salvorlaw16_RegionRuns.mono _)
      | (with_reducible exact salvorref16_Count.mono _ _ _)
      | (with_reducible exact salvorref16_SameRegions.mono _ _ _)
      | (with_reducible exact salvorref16_Set.mono _ _ _ _ _)
      | (with_reducible exact LeO.refl _)
      | (with_reducible exact LeO.none _)
      | (with_reducible refine LeO.ite ?_ ?_)
      | (with_reducible refine LeO.bind ?_ (fun _ => ?_))
      | exact ih0 _ _ _ _ _ _
      | exact region_Count.mono _ _ _
      | exact region_Set.mono _ _ _ _ _
      | exact salvorlaw16_RegionRuns.mono _
      | exact salvorref16_Count.mono _ _ _
      | exact salvorref16_SameRegions.mono _ _ _
      | exact salvorref16_Set.mono _ _ _ _ _
      | exact LeO.none _
      | refine LeO.ite ?_ ?_
      | refine LeO.bind ?_ (fun _ => ?_)
theorem salvorlaw16_RegionSets.mono : ∀ a0 a1 a2 a3 a4 k, LeO (salvorlaw16_RegionSets.f k a0 a1 a2 a3 a4) (salvorlaw16_RegionSets.f (k + 1) a0 a1 a2 a3 a4) := by
  intro a0 a1 a2 a3 a4 k
  have ih0 := salvorlaw16_RegionSets.mono_l k
  unfold salvorlaw16_RegionSets.f
  repeat' first
      | (with_reducible exact ih0 _ _ _ _ _ _)
      | (with_reducible exact region_Count.mono _ _ _)
      | (with_reducible exact region_Set.mono _ _ _ _ _)
      | (with_reducible exact salvorlaw16_RegionRuns.mono _)
      | (with_reducible exact salvorref16_Count.mono _ _ _)
      | (with_reducible exact salvorref16_SameRegions.mono _ _ _)
      | (with_reducible exact salvorref16_Set.mono _ _ _ _ _)
      | (with_reducible exact LeO.refl _)
      | (with_reducible exact LeO.none _)
      | (with_reducible refine LeO.ite ?_ ?_)
      | (with_reducible refine LeO.bind ?_ (fun _ => ?_))
      | exact ih0 _ _ _ _ _ _
      | exact region_Count.mono _ _ _
      | exact region_Set.mono _ _ _ _ _
      | exact salvorlaw16_RegionRuns.mono _
      | exact salvorref16_Count.mono _ _ _
      | exact salvorref16_SameRegions.mono _ _ _
      | exact salvorref16_Set.mono _ _ _ _ _
      | exact LeO.none _
      | refine LeO.ite ?_ ?_
      | refine LeO.bind ?_ (fun _ => ?_)
set_option maxHeartbeats 8000000 in
set_option maxRecDepth 100000 in
theorem salvorlaw16_RegionSets.calls (k : Nat) (A0 : Option Addr) (c0 : Nat) (l0 : List (S26)) (a1 : Int) (a2 : Int) (a3 : Int) (A4 : Option Addr) (c4 : Nat) (l4 : List Int) (r : Bool) (w : World) (hr0 : Kd.C k26 w A0 l0.length l0) (hc0 : l0.length ≤ c0) (hr4 : Kd.C (Kd.int .u8) w A4 l4.length l4) (hc4 : l4.length ≤ c4) (h : salvorlaw16_RegionSets.f k l0 a1 a2 a3 l4 = some r) (hrt : r = true) :
    Calls Try.prog 4 #[.slice A0 l0.length c0, .int .i64 a1, .int .i64 a2, .int .u8 a3, .slice A4 l4.length c4] w fun e w' => e = .returned (.bool r) ∧ Below w.heap.size w w' := by
  have HT := Aside0.mk hrt
  clear hrt
  have HR0 := Aside0.mk hr0
  have HC0 := Aside0.mk hc0
  clear hr0 hc0
  have HR4 := Aside0.mk hr4
  have HC4 := Aside0.mk hc4
  clear hr4 hc4
  have HB := Aside0.mk (Below.refl w.heap.size w)
  have H : ((salvorlaw16_Few.f l0).bind fun t227 => (if t227 = true then (salvorlaw16_RegionSets.j0 k l0 a1 a2 a3 l4 (decide ((l4.length : Int) > 20))) else (salvorlaw16_RegionSets.j0 k l0 a1 a2 a3 l4 true))) = some r := h
  clear h
  have HC6 := Aside0.mk H
  clear H
  go_enter Try.func4, Try.ntmps4
  go_upto_region 1 with (fail)
  go_cut [18] (fun v18 wc => ∃ (kq : Nat) (x18_5 : Bool), v18 = .bool x18_5 ∧ Aside0 (salvorlaw16_RegionSets.j0 kq l0 a1 a2 a3 l4 x18_5 = some r) ∧ Aside0 (kq ≤ k) ∧ Aside0 (Below w.heap.size w wc))
  case first =>
    have H := HC6.out
    clear HC6
    replace H := Option.bind_eq_some_iff.mp H
    obtain ⟨t227, A70, H⟩ := H
    replace H : (if t227 = true then (salvorlaw16_RegionSets.j0 k l0 a1 a2 a3 l4 (decide ((l4.length : Int) > 20))) else (salvorlaw16_RegionSets.j0 k l0 a1 a2 a3 l4 true)) = some r := H
    have A7 := Aside0.mk A70
    clear A70
    by_cases c8 : t227 = true
    · subst c8
      have H1 : (salvorlaw16_RegionSets.j0 k l0 a1 a2 a3 l4 (decide ((l4.length : Int) > 20))) = some r := by rw [if_pos rfl] at H; exact H
      clear H
      have H := H1
      clear H1
      have H' := Aside0.mk H
      clear H
      go_wp2_with (first | ((with_reducible refine gate_callee (f := 17) rfl ?_); refine goesL_ (some 12) rfl rfl Try.func17 (by kernel_rfl) rfl #[.slice A0 l0.length c0] rfl (by (try simp only [List.map_toArray, List.map_cons, List.map_nil]); first | done | rfl | (simp only [List.length_drop, List.length_take]; rfl)) ?_; (with_reducible refine (salvorlaw16_Few.calls _ _ l0 true _ ?side1 ?side2 A7.out).mono ?_); (case side1 => repeat (first | exact (Kd.C_below HR0.out HB.out) | (with_reducible refine Kd.C_alloc ?_ _) | (with_reducible refine Kd.C_drewN ?_ _) | (with_reducible refine Kd.C_drew ?_))); (case side2 => exact HC0.out); rintro e w' ⟨rfl, ⟨nd, rfl⟩⟩; refine ⟨_, rfl, ?_⟩))
      go_meet
      case rel => exact ⟨_, (decide ((l4.length : Int) > 20)), (by first | rfl | (simp; done) | (simp [*]; done)), H', ⟨by first | omega | exact Nat.le_refl _⟩, ⟨by repeat (first | (with_reducible first | exact HB.out | apply below_alloc | apply pw_below_drewN | apply below_drew1) | exact HB.out)⟩⟩
    · replace c8 := Bool.eq_false_iff.mpr c8
      subst c8
      have H1 : (salvorlaw16_RegionSets.j0 k l0 a1 a2 a3 l4 true) = some r := by rw [if_neg (show ¬ (false = true) by decide)] at H; exact H
      clear H
      have H := H1
      clear H1
      have H' := Aside0.mk H
      clear H
      go_wp2_with (first | ((with_reducible refine gate_callee (f := 17) rfl ?_); refine goesL_ (some 12) rfl rfl Try.func17 (by kernel_rfl) rfl #[.slice A0 l0.length c0] rfl (by (try simp only [List.map_toArray, List.map_cons, List.map_nil]); first | done | rfl | (simp only [List.length_drop, List.length_take]; rfl)) ?_; (with_reducible refine (salvorlaw16_Few.calls _ _ l0 false _ ?side1 ?side2 A7.out).mono ?_); (case side1 => repeat (first | exact (Kd.C_below HR0.out HB.out) | (with_reducible refine Kd.C_alloc ?_ _) | (with_reducible refine Kd.C_drewN ?_ _) | (with_reducible refine Kd.C_drew ?_))); (case side2 => exact HC0.out); rintro e w' ⟨rfl, ⟨nd, rfl⟩⟩; refine ⟨_, rfl, ?_⟩))
      go_meet
      case rel => exact ⟨_, (true), (by first | rfl | (simp; done) | (simp [*]; done)), H', ⟨by first | omega | exact Nat.le_refl _⟩, ⟨by repeat (first | (with_reducible first | exact HB.out | apply below_alloc | apply pw_below_drewN | apply below_drew1) | exact HB.out)⟩⟩
  case rest =>
    clear HC6
    try clear c1
    try clear p2
    try clear c4
    try clear c8
    obtain ⟨kq, x18_5, rfl, HA, HJ5, HB⟩ := hcut
    cases kq with
    | zero => exact absurd HA.out (by simp [salvorlaw16_RegionSets.j0])
    | succ kj5 =>
      have H := HA.out
      clear HA
      simp only [salvorlaw16_RegionSets.j0] at H
      by_cases c9 : x18_5 = true
      · subst c9
        have H1 : ((salvorlaw16_RegionRuns.f kj5).bind fun t228 => (some t228)) = some r := by rw [if_pos rfl] at H; exact H
        clear H
        have H := H1
        clear H1
        replace H := Option.bind_eq_some_iff.mp H
        obtain ⟨t228, A100, H⟩ := H
        replace H : (some t228) = some r := H
        have A10 := Aside0.mk A100
        clear A100
        obtain rfl := Option.some.inj H
        go_wp2_with (first | ((with_reducible refine gate_callee (f := 3) rfl ?_); refine goesL_ (some 19) rfl rfl Try.func3 (by kernel_rfl) rfl #[] rfl (by (try simp only [List.map_toArray, List.map_cons, List.map_nil]); first | done | rfl | (simp only [List.length_drop, List.length_take]; rfl)) ?_; (with_reducible refine (salvorlaw16_RegionRuns.calls kj5  t228 _ A10.out).mono ?_); rintro e w11 ⟨rfl, hb⟩; refine ⟨_, rfl, ?_⟩; have n0_ := Aside0.mk (below_step (by repeat (first | (with_reducible first | exact HB.out | apply below_alloc | apply pw_below_drewN | apply below_drew1) | exact HB.out)) hb); clear HB; have HB := n0_; clear n0_; (try clear hb); (try clear hb2); (try clear hk); (try clear hi)))
        go_ret
        exact ⟨by first | rfl | (simp [errW_none, errW_some] <;> rfl) | (simp [*, errW_none, errW_some] <;> rfl), by repeat (first | (with_reducible first | exact HB.out | apply below_alloc | apply pw_below_drewN | apply below_drew1) | exact HB.out)⟩
      · replace c9 := Bool.eq_false_iff.mpr c9
        subst c9
        have H1 : ((region_Set.f kj5 l0 a1 a2 a3).bind fun t229 => ((salvorref16_Set.f kj5 l0 a1 a2 a3).bind fun t232 => ((salvorref16_SameRegions.f kj5 t229 t232).bind fun t235 => (if t235 = true then ((region_Count.f kj5 l0 l4).bind fun t236 => ((salvorref16_Count.f kj5 l0 l4).bind fun t237 => (if t236 = t237 then ((salvorlaw16_RegionRuns.f kj5).bind fun t238 => (some t238)) else (some false)))) else (some false))))) = some r := by rw [if_neg (show ¬ (false = true) by decide)] at H; exact H
        clear H
        have H := H1
        clear H1
        replace H := Option.bind_eq_some_iff.mp H
        obtain ⟨t229, A120, H⟩ := H
        replace H : ((salvorref16_Set.f kj5 l0 a1 a2 a3).bind fun t232 => ((salvorref16_SameRegions.f kj5 t229 t232).bind fun t235 => (if t235 = true then ((region_Count.f kj5 l0 l4).bind fun t236 => ((salvorref16_Count.f kj5 l0 l4).bind fun t237 => (if t236 = t237 then ((salvorlaw16_RegionRuns.f kj5).bind fun t238 => (some t238)) else (some false)))) else (some false)))) = some r := H
        have A12 := Aside0.mk A120
        clear A120
        replace H := Option.bind_eq_some_iff.mp H
        obtain ⟨t232, A130, H⟩ := H
        replace H : ((salvorref16_SameRegions.f kj5 t229 t232).bind fun t235 => (if t235 = true then ((region_Count.f kj5 l0 l4).bind fun t236 => ((salvorref16_Count.f kj5 l0 l4).bind fun t237 => (if t236 = t237 then ((salvorlaw16_RegionRuns.f kj5).bind fun t238 => (some t238)) else (some false)))) else (some false))) = some r := H
        have A13 := Aside0.mk A130
        clear A130
        replace H := Option.bind_eq_some_iff.mp H
        obtain ⟨t235, A140, H⟩ := H
        replace H : (if t235 = true then ((region_Count.f kj5 l0 l4).bind fun t236 => ((salvorref16_Count.f kj5 l0 l4).bind fun t237 => (if t236 = t237 then ((salvorlaw16_RegionRuns.f kj5).bind fun t238 => (some t238)) else (some false)))) else (some false)) = some r := H
        have A14 := Aside0.mk A140
        clear A140
        by_cases c15 : t235 = true
        · subst c15
          have H1 : ((region_Count.f kj5 l0 l4).bind fun t236 => ((salvorref16_Count.f kj5 l0 l4).bind fun t237 => (if t236 = t237 then ((salvorlaw16_RegionRuns.f kj5).bind fun t238 => (some t238)) else (some false)))) = some r := by rw [if_pos rfl] at H; exact H
          clear H
          have H := H1
          clear H1
          replace H := Option.bind_eq_some_iff.mp H
          obtain ⟨t236, A160, H⟩ := H
          replace H : ((salvorref16_Count.f kj5 l0 l4).bind fun t237 => (if t236 = t237 then ((salvorlaw16_RegionRuns.f kj5).bind fun t238 => (some t238)) else (some false))) = some r := H
          have A16 := Aside0.mk A160
          clear A160
          replace H := Option.bind_eq_some_iff.mp H
          obtain ⟨t237, A170, H⟩ := H
          replace H : (if t236 = t237 then ((salvorlaw16_RegionRuns.f kj5).bind fun t238 => (some t238)) else (some false)) = some r := H
          have A17 := Aside0.mk A170
          clear A170
          by_cases c18 : t236 = t237
          · rw [if_pos c18] at H
            have c18b0 : (t236 == t237) = true := beq_iff_eq.mpr c18
            have c18b1 : (t236 != t237) = false := bne_eq_false_iff_eq.mpr c18
            clear c18
            replace H := Option.bind_eq_some_iff.mp H
            obtain ⟨t238, A190, H⟩ := H
            replace H : (some t238) = some r := H
            have A19 := Aside0.mk A190
            clear A190
            obtain rfl := Option.some.inj H
            go_wp2_with (first | ((with_reducible refine gate_callee (f := 10) rfl ?_); refine goesL_ (some 24) rfl rfl Try.func10 (by kernel_rfl) rfl #[.slice A0 l0.length c0, .int .i64 a1, .int .i64 a2, .int .u8 a3] rfl (by (try simp only [List.map_toArray, List.map_cons, List.map_nil]); first | done | rfl | (simp only [List.length_drop, List.length_take]; rfl)) ?_; (with_reducible refine (region_Set.calls kj5 _ _ l0 a1 a2 a3 t229 _ ?side1 ?side2 A12.out).mono ?_); (case side1 => repeat (first | exact (Kd.C_below HR0.out HB.out) | (with_reducible refine Kd.C_alloc ?_ _) | (with_reducible refine Kd.C_drewN ?_ _) | (with_reducible refine Kd.C_drew ?_))); (case side2 => exact HC0.out); rintro e w20 ⟨v230, rfl, ho0, hb⟩; refine ⟨_, rfl, ?_⟩; have n0_ := Aside0.mk (Kd.R_lower ho0 (below_size (by repeat (first | (with_reducible first | exact HB.out | apply below_alloc | apply pw_below_drewN | apply below_drew1) | exact HB.out)))); have n1_ := Aside0.mk (below_step (by repeat (first | (with_reducible first | exact HB.out | apply below_alloc | apply pw_below_drewN | apply below_drew1) | exact HB.out)) hb); clear HB; have HO231 := n0_; have HB := n1_; clear n0_ n1_; (try clear hb); (try clear hb2); (try clear hk); (try clear hi); (try clear ho0)) | ((with_reducible refine gate_callee (f := 19) rfl ?_); refine goesL_ (some 29) rfl rfl Try.func19 (by kernel_rfl) rfl #[.slice A0 l0.length c0, .int .i64 a1, .int .i64 a2, .int .u8 a3] rfl (by (try simp only [List.map_toArray, List.map_cons, List.map_nil]); first | done | rfl | (simp only [List.length_drop, List.length_take]; rfl)) ?_; (with_reducible refine (salvorref16_Set.calls kj5 _ _ l0 a1 a2 a3 t232 _ ?side1 ?side2 A13.out).mono ?_); (case side1 => repeat (first | exact (Kd.C_below HR0.out HB.out) | (with_reducible refine Kd.C_alloc ?_ _) | (with_reducible refine Kd.C_drewN ?_ _) | (with_reducible refine Kd.C_drew ?_))); (case side2 => exact HC0.out); rintro e w21 ⟨v233, rfl, ho0, hb⟩; refine ⟨_, rfl, ?_⟩; have n0_ := Aside0.mk (Kd.R_elder' (by (with_reducible repeat (first | apply Kd.R_alloc | apply Kd.R_drewN | apply Kd.R_drew)); exact HO231.out) (Kd.R_base ho0) hb); have n1_ := Aside0.mk (Kd.R_lower (Kd.R_new' ho0 (Kd.R_lt (by (with_reducible repeat (first | apply Kd.R_alloc | apply Kd.R_drewN | apply Kd.R_drew)); exact HO231.out))) (below_size (by repeat (first | (with_reducible first | exact HB.out | apply below_alloc | apply pw_below_drewN | apply below_drew1) | exact HB.out)))); have n2_ := Aside0.mk (below_step (by repeat (first | (with_reducible first | exact HB.out | apply below_alloc | apply pw_below_drewN | apply below_drew1) | exact HB.out)) hb); clear HO231; clear HB; have HO231 := n0_; have HO234 := n1_; have HB := n2_; clear n0_ n1_ n2_; (try clear hb); (try clear hb2); (try clear hk); (try clear hi); (try clear ho0); obtain ⟨Ao22, co22, eo22⟩ := Kd.R_slice HO231.out; subst eo22; obtain ⟨Ao23, co23, eo23⟩ := Kd.R_slice HO234.out; subst eo23) | ((with_reducible refine gate_callee (f := 18) rfl ?_); refine goesL_ (some 30) rfl rfl Try.func18 (by kernel_rfl) rfl #[.slice Ao22 t229.length co22, .slice Ao23 t232.length co23] rfl (by (try simp only [List.map_toArray, List.map_cons, List.map_nil]); first | done | rfl | (simp only [List.length_drop, List.length_take]; rfl)) ?_; (with_reducible refine (salvorref16_SameRegions.calls kj5 _ _ t229 _ _ t232 true _ ?side1 ?side2 ?side3 ?side4 A14.out).mono ?_); (case side1 => repeat (first | exact (Kd.R_reads' HO231.out).2.2 | (with_reducible refine Kd.C_alloc ?_ _) | (with_reducible refine Kd.C_drewN ?_ _) | (with_reducible refine Kd.C_drew ?_))); (case side2 => exact (Kd.R_reads' HO231.out).2.1); (case side3 => repeat (first | exact (Kd.R_reads' HO234.out).2.2 | (with_reducible refine Kd.C_alloc ?_ _) | (with_reducible refine Kd.C_drewN ?_ _) | (with_reducible refine Kd.C_drew ?_))); (case side4 => exact (Kd.R_reads' HO234.out).2.1); rintro e w' ⟨rfl, ⟨nd, rfl⟩⟩; refine ⟨_, rfl, ?_⟩) | (go_at_call 15; (with_reducible refine (region_Count.calls kj5 _ _ l0 _ _ l4 t236 _ ?side1 ?side2 ?side3 ?side4 A16.out).mono ?_); (case side1 => repeat (first | exact (Kd.C_below HR0.out (by repeat (first | (with_reducible first | exact HB.out | apply below_alloc | apply pw_below_drewN | apply below_drew1) | exact HB.out))) | (with_reducible refine Kd.C_alloc ?_ _) | (with_reducible refine Kd.C_drewN ?_ _) | (with_reducible refine Kd.C_drew ?_))); (case side2 => exact HC0.out); (case side3 => repeat (first | exact (Kd.C_below HR4.out (by repeat (first | (with_reducible first | exact HB.out | apply below_alloc | apply pw_below_drewN | apply below_drew1) | exact HB.out))) | (with_reducible refine Kd.C_alloc ?_ _) | (with_reducible refine Kd.C_drewN ?_ _) | (with_reducible refine Kd.C_drew ?_))); (case side4 => exact HC4.out); rintro e w24 ⟨rfl, hb⟩; have n0_ := Aside0.mk (Kd.R_below (by (with_reducible repeat (first | apply Kd.R_alloc | apply Kd.R_drewN | apply Kd.R_drew)); exact HO231.out) hb); have n1_ := Aside0.mk (Kd.R_below (by (with_reducible repeat (first | apply Kd.R_alloc | apply Kd.R_drewN | apply Kd.R_drew)); exact HO234.out) hb); have n2_ := Aside0.mk (below_step (by repeat (first | (with_reducible first | exact HB.out | apply below_alloc | apply pw_below_drewN | apply below_drew1) | exact HB.out)) hb); clear HO231; clear HO234; clear HB; have HO231 := n0_; have HO234 := n1_; have HB := n2_; clear n0_ n1_ n2_; (try clear hb); (try clear hb2); (try clear hk); (try clear hi)) | (go_at_call 20; (with_reducible refine (salvorref16_Count.calls kj5 _ _ l0 _ _ l4 t237 _ ?side1 ?side2 ?side3 ?side4 A17.out).mono ?_); (case side1 => repeat (first | exact (Kd.C_below HR0.out HB.out) | (with_reducible refine Kd.C_alloc ?_ _) | (with_reducible refine Kd.C_drewN ?_ _) | (with_reducible refine Kd.C_drew ?_))); (case side2 => exact HC0.out); (case side3 => repeat (first | exact (Kd.C_below HR4.out HB.out) | (with_reducible refine Kd.C_alloc ?_ _) | (with_reducible refine Kd.C_drewN ?_ _) | (with_reducible refine Kd.C_drew ?_))); (case side4 => exact HC4.out); rintro e w25 ⟨rfl, hb⟩; have n0_ := Aside0.mk (Kd.R_below (by (with_reducible repeat (first | apply Kd.R_alloc | apply Kd.R_drewN | apply Kd.R_drew)); exact HO231.out) hb); have n1_ := Aside0.mk (Kd.R_below (by (with_reducible repeat (first | apply Kd.R_alloc | apply Kd.R_drewN | apply Kd.R_drew)); exact HO234.out) hb); have n2_ := Aside0.mk (below_step (by repeat (first | (with_reducible first | exact HB.out | apply below_alloc | apply pw_below_drewN | apply below_drew1) | exact HB.out)) hb); clear HO231; clear HO234; clear HB; have HO231 := n0_; have HO234 := n1_; have HB := n2_; clear n0_ n1_ n2_; (try clear hb); (try clear hb2); (try clear hk); (try clear hi)) | (go_at_call 3; (with_reducible refine (salvorlaw16_RegionRuns.calls kj5  t238 _ A19.out).mono ?_); rintro e w26 ⟨rfl, hb⟩; have n0_ := Aside0.mk (Kd.R_below (by (with_reducible repeat (first | apply Kd.R_alloc | apply Kd.R_drewN | apply Kd.R_drew)); exact HO231.out) hb); have n1_ := Aside0.mk (Kd.R_below (by (with_reducible repeat (first | apply Kd.R_alloc | apply Kd.R_drewN | apply Kd.R_drew)); exact HO234.out) hb); have n2_ := Aside0.mk (below_step (by repeat (first | (with_reducible first | exact HB.out | apply below_alloc | apply pw_below_drewN | apply below_drew1) | exact HB.out)) hb); clear HO231; clear HO234; clear HB; have HO231 := n0_; have HO234 := n1_; have HB := n2_; clear n0_ n1_ n2_; (try clear hb); (try clear hb2); (try clear hk); (try clear hi)))
            go_ret
            exact ⟨by first | rfl | (simp [errW_none, errW_some] <;> rfl) | (simp [*, errW_none, errW_some] <;> rfl), by repeat (first | (with_reducible first | exact HB.out | apply below_alloc | apply pw_below_drewN | apply below_drew1) | exact HB.out)⟩
          · rw [if_neg c18] at H
            have c18b0 : (t236 == t237) = false := beq_eq_false_iff_ne.mpr c18
            have c18b1 : (t236 != t237) = true := bne_iff_ne.mpr c18
            exact absurd ((Option.some.inj H).trans HT.out) (by simp)
        · replace c15 := Bool.eq_false_iff.mpr c15
          subst c15
          have H1 : (some false) = some r := by rw [if_neg (show ¬ (false = true) by decide)] at H; exact H
          clear H
          have H := H1
          clear H1
          exact absurd ((Option.some.inj H).trans HT.out) (by simp)

end Go.Proofs.Ytjgkfnbfjamccaa.P
