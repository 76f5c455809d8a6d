/- Laid by a program of this session's own (wip/wprint.py, over the kit's print.py): functions of the given program as plain Lean functions, and that the program's calls come to their answers. -/
import Derived.Test.YtlginoicaeonhaaDoorPx0
import Derived.Test.YtlginoicaeonhaaDoorPx6
import Derived.Test.YtlginoicaeonhaaDoorPx12
import Derived.Test.YtlginoicaeonhaaDoorPx13
import Derived.Test.YtlginoicaeonhaaDoorPx17
import Derived.Test.YtlginoicaeonhaaDoorPx20
import Derived.Test.YtlginoicaeonhaaDoorPx21
namespace Go.Proofs.YtlginoicaeonhaaDoor.P
open Go.RowKit Go.Proofs.YtlginoicaeonhaaDoorW.PrintWords Go.Proofs.YtlginoicaeonhaaDoorW.PrintLast Go.Proofs.YtlginoicaeonhaaDoorW.PrintMore
attribute [local go_sem] max2_int min2_int max_two min_two max_three min_three max_four min_four   -- for this text's walks alone
set_option linter.unusedVariables false
set_option linter.unusedSimpArgs false

/-! ### salvorlaw9_ArgFlags: function 5 -/
def salvorlaw9_ArgFlags.j0 : Nat → ByteArray → List ByteArray → Bool → Option (Bool)
 | 0, _, _, _ => none
 | k + 1, x0, x1, x16 => if x16 = true then ((salvorlaw9_ArgRuns.f k).bind fun t227 => (some t227)) else ((arg_Flags.f x0 x1).bind fun bt228 => ((salvorref6_Flags.f k x0 x1).bind fun bt236 => ((salvorref1_SameOpts.f k bt228.1 bt236.1).bind fun t244 => (if t244 = true then ((salvorref1_SameTexts.f k bt228.2.1 bt236.2.1).bind fun t245 => (if t245 = true then (if (bt228.2.2 == bt236.2.2) = true then ((salvorlaw9_ArgRuns.f k).bind fun t246 => (some t246)) else (some false)) else (some false))) else (some false)))))
def salvorlaw9_ArgFlags.f (k : Nat) (a0 : ByteArray) (l1 : List ByteArray) : Option (Bool) := (salvorlaw9_few.f k l1 60).bind fun t226 => (if t226 = true then (salvorlaw9_ArgFlags.j0 k a0 l1 (decide ((a0.size : Int) > 100))) else (salvorlaw9_ArgFlags.j0 k a0 l1 true))
theorem salvorlaw9_ArgFlags.mono_l : ∀ k, (∀ y0 y1 y2, LeO (salvorlaw9_ArgFlags.j0 k y0 y1 y2) (salvorlaw9_ArgFlags.j0 (k + 1) y0 y1 y2))
 | 0 => fun _ _ _ r h => by simp [salvorlaw9_ArgFlags.j0] at h
 | k + 1 => by
  have ih0 := salvorlaw9_ArgFlags.mono_l k
  ·intro y0 y1 y2
   unfold salvorlaw9_ArgFlags.j0
   repeat' first
   | (with_reducible exact ih0 _ _ _)
   | (with_reducible exact salvorlaw9_ArgRuns.mono _)
   | (with_reducible exact salvorlaw9_few.mono _ _ _)
   | (with_reducible exact salvorref1_SameOpts.mono _ _ _)
   | (with_reducible exact salvorref1_SameTexts.mono _ _ _)
   | (with_reducible exact salvorref6_Flags.mono _ _ _)
   | (with_reducible exact LeO.refl _)
   | (with_reducible exact LeO.none _)
   | (with_reducible refine LeO.ite ?_ ?_)
   | (with_reducible refine LeO.bind ?_ (fun _ => ?_))
   | exact ih0 _ _ _
   | exact salvorlaw9_ArgRuns.mono _
   | exact salvorlaw9_few.mono _ _ _
   | exact salvorref1_SameOpts.mono _ _ _
   | exact salvorref1_SameTexts.mono _ _ _
   | exact salvorref6_Flags.mono _ _ _
   | exact LeO.none _
   | refine LeO.ite ?_ ?_
   | refine LeO.bind ?_ (fun _ => ?_)
theorem salvorlaw9_ArgFlags.mono : ∀ a0 a1 k, LeO (salvorlaw9_ArgFlags.f k a0 a1) (salvorlaw9_ArgFlags.f (k + 1) a0 a1) := by
 intro a0 a1 k
 have ih0 := salvorlaw9_ArgFlags.mono_l k
 unfold salvorlaw9_ArgFlags.f
 repeat' first
   | (with_reducible exact ih0 _ _ _)
   | (with_reducible exact salvorlaw9_ArgRuns.mono _)
   | (with_reducible exact salvorlaw9_few.mono _ _ _)
   | (with_reducible exact salvorref1_SameOpts.mono _ _ _)
   | (with_reducible exact salvorref1_SameTexts.mono _ _ _)
   | (with_reducible exact salvorref6_Flags.mono _ _ _)
   | (with_reducible exact LeO.refl _)
   | (with_reducible exact LeO.none _)
   | (with_reducible refine LeO.ite ?_ ?_)
   | (with_reducible refine LeO.bind ?_ (fun _ => ?_))
   | exact ih0 _ _ _
   | exact salvorlaw9_ArgRuns.mono _
   | exact salvorlaw9_few.mono _ _ _
   | exact salvorref1_SameOpts.mono _ _ _
   | exact salvorref1_SameTexts.mono _ _ _
   | exact salvorref6_Flags.mono _ _ _
   | exact LeO.none _
   | refine LeO.ite ?_ ?_
   | refine LeO.bind ?_ (fun _ => ?_)
set_option maxHeartbeats 8000000 in
set_option maxRecDepth 100000 in
theorem salvorlaw9_ArgFlags.calls (k : Nat) (a0 : ByteArray) (A1 : Option Addr) (c1 : Nat) (l1 : List ByteArray) (r : Bool) (w : World) (hr1 : Kd.C Kd.string w A1 l1.length l1) (hc1 : l1.length ≤ c1) (h : salvorlaw9_ArgFlags.f k a0 l1 = some r) (htab : TabAt w) (hrt : r = true) :
  Calls Tryd.prog 5 #[.string a0, .slice A1 l1.length c1] w fun e w' => e = .returned (.bool r) ∧ Below w.heap.size w w' := by
 have HT := Aside0.mk hrt
 clear hrt
 have HTAB := Aside0.mk htab
 clear htab
 have hu25 := Tryd.underlying25
 have HR1 := Aside0.mk hr1
 have HC1 := Aside0.mk hc1
 clear hr1 hc1
 have HB := Aside0.mk (Below.refl w.heap.size w)
 have H : ((salvorlaw9_few.f k l1 60).bind fun t226 => (if t226 = true then (salvorlaw9_ArgFlags.j0 k a0 l1 (decide ((a0.size : Int) > 100))) else (salvorlaw9_ArgFlags.j0 k a0 l1 true))) = some r := h
 clear h
 have HC3 := Aside0.mk H
 clear H
 go_enter Tryd.func5, Tryd.ntmps5
 go_upto_region 1 with (fail)
 go_cut [16] (fun v16 wc => ∃ (kq : Nat) (x16_2 : Bool), v16 = .bool x16_2 ∧ Aside0 (salvorlaw9_ArgFlags.j0 kq a0 l1 x16_2 = some r) ∧ Aside0 (kq ≤ k) ∧ Aside0 (Below w.heap.size w wc))
 case first =>
  have H := HC3.out
  clear HC3
  replace H := Option.bind_eq_some_iff.mp H
  obtain ⟨t226, A40, H⟩ := H
  replace H : (if t226 = true then (salvorlaw9_ArgFlags.j0 k a0 l1 (decide ((a0.size : Int) > 100))) else (salvorlaw9_ArgFlags.j0 k a0 l1 true)) = some r := H
  have A4 := Aside0.mk A40
  clear A40
  by_cases c5 : t226 = true
  ·subst c5
   have H1 : (salvorlaw9_ArgFlags.j0 k a0 l1 (decide ((a0.size : Int) > 100))) = some r := by rw [if_pos rfl] at H; exact H
   clear H
   have H := H1
   clear H1
   have H' := Aside0.mk H
   clear H
   go_wp2_with (first | ((with_reducible refine gate_callee (f := 13) rfl ?_); refine gl_ (some 10) rfl rfl Tryd.func13 (by kernel_rfl) rfl #[.slice A1 l1.length c1, .int .i64 60] rfl ?_; (with_reducible refine (salvorlaw9_few.calls k _ _ l1 60 true _ ?side1 ?side2 A4.out ?tb0_).mono ?_); (case tb0_ => exact tb_ HTAB HB); (case side1 => exact cb_ HR1 HB); (case side2 => exact HC1.out); rintro e w' ⟨rfl, ⟨nd, rfl⟩⟩; refine ⟨_, rfl, ?_⟩))
   go_meet
   case rel => exact ⟨_, (decide ((a0.size : Int) > 100)), (by first | rfl | (simp; done) | (simp [*]; done)), H', ⟨by first | omega | exact Nat.le_refl _⟩, ⟨bh_ HB⟩⟩
  ·replace c5 := Bool.eq_false_iff.mpr c5
   subst c5
   have H1 : (salvorlaw9_ArgFlags.j0 k a0 l1 true) = some r := by rw [if_neg (show ¬ (false = true) by decide)] at H; exact H
   clear H
   have H := H1
   clear H1
   have H' := Aside0.mk H
   clear H
   go_wp2_with (first | ((with_reducible refine gate_callee (f := 13) rfl ?_); refine gl_ (some 10) rfl rfl Tryd.func13 (by kernel_rfl) rfl #[.slice A1 l1.length c1, .int .i64 60] rfl ?_; (with_reducible refine (salvorlaw9_few.calls k _ _ l1 60 false _ ?side1 ?side2 A4.out ?tb2_).mono ?_); (case tb2_ => exact tb_ HTAB HB); (case side1 => exact cb_ HR1 HB); (case side2 => exact HC1.out); rintro e w' ⟨rfl, ⟨nd, rfl⟩⟩; refine ⟨_, rfl, ?_⟩))
   go_meet
   case rel => exact ⟨_, (true), (by first | rfl | (simp; done) | (simp [*]; done)), H', ⟨by first | omega | exact Nat.le_refl _⟩, ⟨bh_ HB⟩⟩
 case rest =>
  clear HC3
  try clear c1
  try clear p2
  try clear c5
  obtain ⟨kq, x16_2, rfl, HA, HJ2, HB⟩ := hcut
  cases kq with
  | zero => exact absurd HA.out (by simp [salvorlaw9_ArgFlags.j0])
  | succ kj2 =>
   have H := HA.out
   clear HA
   simp only [salvorlaw9_ArgFlags.j0] at H
   by_cases c6 : x16_2 = true
   ·subst c6
    have H1 : ((salvorlaw9_ArgRuns.f kj2).bind fun t227 => (some t227)) = some r := by rw [if_pos rfl] at H; exact H
    clear H
    have H := H1
    clear H1
    replace H := Option.bind_eq_some_iff.mp H
    obtain ⟨t227, A70, H⟩ := H
    replace H : (some t227) = some r := H
    have A7 := Aside0.mk A70
    clear A70
    obtain rfl := Option.some.inj H
    go_wp2_with (first | ((with_reducible refine gate_callee (f := 3) rfl ?_); refine gl_ (some 17) rfl rfl Tryd.func3 (by kernel_rfl) rfl #[] rfl ?_; (with_reducible refine (salvorlaw9_ArgRuns.calls kj2  t227 _ A7.out ?tb4_).mono ?_); (case tb4_ => exact tb_ HTAB HB); rintro e w8 ⟨rfl, hb⟩; refine ⟨_, rfl, ?_⟩; replace HB := bs_ HB hb; (try clear hb)))
    go_ret
    exact ⟨by first | rfl | (simp [errW_none, errW_some] <;> rfl) | (simp [*, errW_none, errW_some] <;> rfl), bh_ HB⟩
   ·replace c6 := Bool.eq_false_iff.mpr c6
    subst c6
    have H1 : ((arg_Flags.f a0 l1).bind fun bt228 => ((salvorref6_Flags.f kj2 a0 l1).bind fun bt236 => ((salvorref1_SameOpts.f kj2 bt228.1 bt236.1).bind fun t244 => (if t244 = true then ((salvorref1_SameTexts.f kj2 bt228.2.1 bt236.2.1).bind fun t245 => (if t245 = true then (if (bt228.2.2 == bt236.2.2) = true then ((salvorlaw9_ArgRuns.f kj2).bind fun t246 => (some t246)) else (some false)) else (some false))) else (some false))))) = some r := by rw [if_neg (show ¬ (false = true) by decide)] at H; exact H
    clear H
    have H := H1
    clear H1
    replace H := Option.bind_eq_some_iff.mp H
    obtain ⟨⟨t228, t231, t234⟩, A90, H⟩ := H
    replace H : ((salvorref6_Flags.f kj2 a0 l1).bind fun bt236 => ((salvorref1_SameOpts.f kj2 t228 bt236.1).bind fun t244 => (if t244 = true then ((salvorref1_SameTexts.f kj2 t231 bt236.2.1).bind fun t245 => (if t245 = true then (if (t234 == bt236.2.2) = true then ((salvorlaw9_ArgRuns.f kj2).bind fun t246 => (some t246)) else (some false)) else (some false))) else (some false)))) = some r := H
    have A9 := Aside0.mk A90
    clear A90
    replace H := Option.bind_eq_some_iff.mp H
    obtain ⟨⟨t236, t239, t242⟩, A100, H⟩ := H
    replace H : ((salvorref1_SameOpts.f kj2 t228 t236).bind fun t244 => (if t244 = true then ((salvorref1_SameTexts.f kj2 t231 t239).bind fun t245 => (if t245 = true then (if (t234 == t242) = true then ((salvorlaw9_ArgRuns.f kj2).bind fun t246 => (some t246)) else (some false)) else (some false))) else (some false))) = some r := H
    have A10 := Aside0.mk A100
    clear A100
    replace H := Option.bind_eq_some_iff.mp H
    obtain ⟨t244, A110, H⟩ := H
    replace H : (if t244 = true then ((salvorref1_SameTexts.f kj2 t231 t239).bind fun t245 => (if t245 = true then (if (t234 == t242) = true then ((salvorlaw9_ArgRuns.f kj2).bind fun t246 => (some t246)) else (some false)) else (some false))) else (some false)) = some r := H
    have A11 := Aside0.mk A110
    clear A110
    by_cases c12 : t244 = true
    ·subst c12
     have H1 : ((salvorref1_SameTexts.f kj2 t231 t239).bind fun t245 => (if t245 = true then (if (t234 == t242) = true then ((salvorlaw9_ArgRuns.f kj2).bind fun t246 => (some t246)) else (some false)) else (some false))) = some r := by rw [if_pos rfl] at H; exact H
     clear H
     have H := H1
     clear H1
     replace H := Option.bind_eq_some_iff.mp H
     obtain ⟨t245, A130, H⟩ := H
     replace H : (if t245 = true then (if (t234 == t242) = true then ((salvorlaw9_ArgRuns.f kj2).bind fun t246 => (some t246)) else (some false)) else (some false)) = some r := H
     have A13 := Aside0.mk A130
     clear A130
     by_cases c14 : t245 = true
     ·subst c14
      have H1 : (if (t234 == t242) = true then ((salvorlaw9_ArgRuns.f kj2).bind fun t246 => (some t246)) else (some false)) = some r := by rw [if_pos rfl] at H; exact H
      clear H
      have H := H1
      clear H1
      by_cases c15 : (t234 == t242) = true
      ·rw [if_pos c15] at H
       have c15b0 : (t234 == t242) = true := c15
       (try (have c15b1 : decide (t234 = t242) = true := by simpa using c15))
       (try (have c15b2 : (t234 == t242) = true := by simpa using c15))
       clear c15
       replace H := Option.bind_eq_some_iff.mp H
       obtain ⟨t246, A160, H⟩ := H
       replace H : (some t246) = some r := H
       have A16 := Aside0.mk A160
       clear A160
       obtain rfl := Option.some.inj H
       go_wp2_with (first | ((with_reducible refine gate_callee (f := 10) rfl ?_); refine gl_ (some 21) rfl rfl Tryd.func10 (by kernel_rfl) rfl #[.string a0, .slice A1 l1.length c1] rfl ?_; (with_reducible refine (arg_Flags.calls a0 _ _ l1 t228 t231 t234 _ ?side1 ?side2 A9.out ?tb6_).mono ?_); (case tb6_ => exact tb_ HTAB HB); (case side1 => exact cb_ HR1 HB); (case side2 => exact HC1.out); rintro e w17 ⟨v229, v232, rfl, ho0, ho1, hb⟩; refine ⟨_, rfl, ?_⟩; have HO230 := Aside0.mk (Kd.R_lower ho0 (below_size (bh_ HB))); have HO233 := Aside0.mk (Kd.R_lower ho1 (below_size (bh_ HB))); replace HB := bs_ HB hb; (try clear hb); (try clear hb2); (try clear hk); (try clear hi); (try clear ho0); (try clear ho1)) | ((with_reducible refine gate_dst (N := 5) rfl ?_); (try (refine gate_guard (by rfl) ?_; dsimp only)); refine box_e 5 #[.slice none 0 0, .slice none 0 0] 25 ?_; intro gb235 hg w18 hbox hb; have n0_ := Aside0.mk (Kd.R_below (by (with_reducible repeat (first | apply Kd.R_alloc | apply Kd.R_drewN | apply Kd.R_drew)); exact HO230.out) hb); have n1_ := Aside0.mk (Kd.R_below (by (with_reducible repeat (first | apply Kd.R_alloc | apply Kd.R_drewN | apply Kd.R_drew)); exact HO233.out) hb); have n2_ := bs_ HB hb; have n3_ := Aside0.mk hbox; have n4_ := bg_ HB hg; have n5_ := bg_ HB hg; clear HO230; clear HO233; clear HB; have HO230 := n0_; have HO233 := n1_; have HB := n2_; have BK235 := n3_; have GW235 := n4_; have GE235 := n5_; clear n0_ n1_ n2_ n3_ n4_ n5_; clear hb hbox hg; obtain ⟨Ao19, co19, eo19⟩ := Kd.R_slice HO230.out; subst eo19; obtain ⟨hcz20_0, hcz20_1, hfz20_0, hfz20_1⟩ := c2_ BK235; obtain ⟨Ao21, co21, eo21⟩ := Kd.R_slice HO233.out; subst eo21) | ((with_reducible refine gate_callee (f := 16) rfl ?_); refine gl_ (some 27) rfl rfl Tryd.func16 (by kernel_rfl) rfl #[.string a0, .slice A1 l1.length c1] rfl ?_; (with_reducible refine (salvorref6_Flags.calls kj2 a0 _ _ l1 t236 t239 t242 _ ?side1 ?side2 A10.out).mono ?_); (case side1 => exact Kd.C_below HR1.out (bh_ HB)); (case side2 => exact HC1.out); rintro e w22 ⟨v237, v240, rfl, ho0, ho1, hb⟩; refine ⟨_, rfl, ?_⟩; have n0_ := Aside0.mk (Kd.R_elder' (by (with_reducible repeat (first | apply Kd.R_alloc | apply Kd.R_drewN | apply Kd.R_drew)); exact (Kd.R_mono (Kd.R_far (p := ⟨gb235, 1, none⟩) (Kd.R_far (p := ⟨gb235, 0, none⟩) (Kd.R_types HO230.out BK235.out (by decide)) (fun _ hk => hk.2) (.slice Ao19 t228.length co19)) (fun _ hk => hk.2) (.slice Ao21 t231.length co21)) (fun _ h_ => h_.1))) (Kd.R_base ho0) hb); have n1_ := Aside0.mk (Kd.R_elder' (by (with_reducible repeat (first | apply Kd.R_alloc | apply Kd.R_drewN | apply Kd.R_drew)); exact (Kd.R_mono (Kd.R_far (p := ⟨gb235, 1, none⟩) (Kd.R_far (p := ⟨gb235, 0, none⟩) (Kd.R_types HO233.out BK235.out (by decide)) (fun _ hk => hk.2) (.slice Ao19 t228.length co19)) (fun _ hk => hk.2) (.slice Ao21 t231.length co21)) (fun _ h_ => h_.1))) (Kd.R_base ho1) hb); have n2_ := Aside0.mk (Kd.R_lower (Kd.R_new' ho0 (Kd.R_lt (by (with_reducible repeat (first | apply Kd.R_alloc | apply Kd.R_drewN | apply Kd.R_drew)); exact (Kd.R_mono (Kd.R_far (p := ⟨gb235, 1, none⟩) (Kd.R_far (p := ⟨gb235, 0, none⟩) (Kd.R_types HO230.out BK235.out (by decide)) (fun _ hk => hk.2) (.slice Ao19 t228.length co19)) (fun _ hk => hk.2) (.slice Ao21 t231.length co21)) (fun _ h_ => h_.1))))) (below_size (bh_ HB))); have n3_ := Aside0.mk (Kd.R_lower (Kd.R_new' ho1 (Kd.R_lt (by (with_reducible repeat (first | apply Kd.R_alloc | apply Kd.R_drewN | apply Kd.R_drew)); exact (Kd.R_mono (Kd.R_far (p := ⟨gb235, 1, none⟩) (Kd.R_far (p := ⟨gb235, 0, none⟩) (Kd.R_types HO233.out BK235.out (by decide)) (fun _ hk => hk.2) (.slice Ao19 t228.length co19)) (fun _ hk => hk.2) (.slice Ao21 t231.length co21)) (fun _ h_ => h_.1))))) (below_size (bh_ HB))); have n4_ := Aside0.mk (blk_below (g := gb235) (o := .cells #[.slice Ao19 t228.length co19, .slice Ao21 t231.length co21] 25 (0, 0)) (bp_ BK235) hb); have n5_ := bs_ HB hb; clear HO230; clear HO233; clear BK235; clear HB; have HO230 := n0_; have HO233 := n1_; have HO238 := n2_; have HO241 := n3_; have BK235 := n4_; have HB := n5_; clear n0_ n1_ n2_ n3_ n4_ n5_; (try clear hb); (try clear hb2); (try clear hk); (try clear hi); (try clear ho0); (try clear ho1)) | ((with_reducible refine gate_dst (N := 7) rfl ?_); (try (refine gate_guard (by rfl) ?_; dsimp only)); refine box_e 7 #[.slice none 0 0, .slice none 0 0] 25 ?_; intro gb243 hg w23 hbox hb; have n0_ := Aside0.mk (Kd.R_below (by (with_reducible repeat (first | apply Kd.R_alloc | apply Kd.R_drewN | apply Kd.R_drew)); exact HO230.out) hb); have n1_ := Aside0.mk (Kd.R_below (by (with_reducible repeat (first | apply Kd.R_alloc | apply Kd.R_drewN | apply Kd.R_drew)); exact HO233.out) hb); have n2_ := Aside0.mk (Kd.R_below (by (with_reducible repeat (first | apply Kd.R_alloc | apply Kd.R_drewN | apply Kd.R_drew)); exact HO238.out) hb); have n3_ := Aside0.mk (Kd.R_below (by (with_reducible repeat (first | apply Kd.R_alloc | apply Kd.R_drewN | apply Kd.R_drew)); exact HO241.out) hb); have n4_ := bb_ BK235 hb; have n5_ := bs_ HB hb; have n6_ := Aside0.mk hbox; have n7_ := bg_ HB hg; have n8_ := bg_ HB hg; have n9_ := bn_ BK235 hg; have n10_ := bm_ BK235 hg; clear HO230; clear HO233; clear HO238; clear HO241; clear BK235; clear HB; have HO230 := n0_; have HO233 := n1_; have HO238 := n2_; have HO241 := n3_; have BK235 := n4_; have HB := n5_; have BK243 := n6_; have GW243 := n7_; have GE243 := n8_; have NB235_243 := n9_; have NB243_235 := n10_; clear n0_ n1_ n2_ n3_ n4_ n5_ n6_ n7_ n8_ n9_ n10_; clear hb hbox hg; obtain ⟨Ao24, co24, eo24⟩ := Kd.R_slice HO238.out; subst eo24; have hnb25 := NB243_235.out; have hnc25 := NB235_243.out; obtain ⟨hcz26_0, hcz26_1, hfz26_0, hfz26_1⟩ := c2_ BK243; obtain ⟨Ao27, co27, eo27⟩ := Kd.R_slice HO241.out; subst eo27; obtain ⟨hcz28_0, hcz28_1, hfz28_0, hfz28_1⟩ := c2_ BK235) | ((with_reducible refine gate_callee (f := 15) rfl ?_); refine gl_ (some 34) rfl rfl Tryd.func15 (by kernel_rfl) rfl #[.slice Ao19 t228.length co19, .slice Ao24 t236.length co24] rfl ?_; (with_reducible refine (salvorref1_SameOpts.calls kj2 _ _ t228 _ _ t236 true _ ?side1 ?side2 ?side3 ?side4 A11.out).mono ?_); (case side1 => refine (Kd.R_reads' (e := 31) (base := w.heap.size) (ok := fun k_ => (True ∧ some k_ ≠ (.slice Ao24 t236.length co24 : Value).ownBlock)) (n := t228.length) (c := co19) ?_).2.2; exact (by (with_reducible repeat (first | apply Kd.R_alloc | apply Kd.R_drewN | apply Kd.R_drew)); exact (Kd.R_mono (Kd.R_far (p := ⟨gb243, 1, none⟩) (Kd.R_far (p := ⟨gb243, 0, none⟩) (Kd.R_types HO230.out BK243.out (by decide)) (fun _ hk => hk.2) (.slice Ao24 t236.length co24)) (fun _ hk => hk.2) (.slice Ao27 t239.length co27)) (fun _ h_ => h_.1)))); (case side2 => exact (Kd.R_reads' HO230.out).2.1); (case side3 => refine (Kd.R_reads' (e := 31) (base := w.heap.size) (ok := fun k_ => (True ∧ some k_ ≠ (.slice Ao19 t228.length co19 : Value).ownBlock)) (n := t236.length) (c := co24) ?_).2.2; exact (by (with_reducible repeat (first | apply Kd.R_alloc | apply Kd.R_drewN | apply Kd.R_drew)); exact (Kd.R_mono (Kd.R_far (p := ⟨gb243, 1, none⟩) (Kd.R_far (p := ⟨gb243, 0, none⟩) (Kd.R_types HO238.out BK243.out (by decide)) (fun _ hk => hk.2) (.slice Ao24 t236.length co24)) (fun _ hk => hk.2) (.slice Ao27 t239.length co27)) (fun _ h_ => h_.1)))); (case side4 => exact (Kd.R_reads' HO238.out).2.1); rintro e w' ⟨rfl, ⟨nd, rfl⟩⟩; refine ⟨_, rfl, ?_⟩) | (go_at_call 17; (with_reducible refine (salvorref1_SameTexts.calls kj2 _ _ t231 _ _ t239 true _ ?side1 ?side2 ?side3 ?side4 A13.out).mono ?_); (case side1 => refine (Kd.R_reads' (e := 9) (base := w.heap.size) (ok := fun k_ => (True ∧ some k_ ≠ (.slice Ao27 t239.length co27 : Value).ownBlock)) (n := t231.length) (c := co21) ?_).2.2; exact (by (with_reducible repeat (first | apply Kd.R_alloc | apply Kd.R_drewN | apply Kd.R_drew)); exact (Kd.R_mono (Kd.R_far (p := ⟨gb243, 1, none⟩) (Kd.R_far (p := ⟨gb243, 0, none⟩) (Kd.R_types HO233.out BK243.out (by decide)) (fun _ hk => hk.2) (.slice Ao24 t236.length co24)) (fun _ hk => hk.2) (.slice Ao27 t239.length co27)) (fun _ h_ => h_.1)))); (case side2 => exact (Kd.R_reads' HO233.out).2.1); (case side3 => refine (Kd.R_reads' (e := 9) (base := w.heap.size) (ok := fun k_ => (True ∧ some k_ ≠ (.slice Ao21 t231.length co21 : Value).ownBlock)) (n := t239.length) (c := co27) ?_).2.2; exact (by (with_reducible repeat (first | apply Kd.R_alloc | apply Kd.R_drewN | apply Kd.R_drew)); exact (Kd.R_mono (Kd.R_far (p := ⟨gb243, 1, none⟩) (Kd.R_far (p := ⟨gb243, 0, none⟩) (Kd.R_types HO241.out BK243.out (by decide)) (fun _ hk => hk.2) (.slice Ao24 t236.length co24)) (fun _ hk => hk.2) (.slice Ao27 t239.length co27)) (fun _ h_ => h_.1)))); (case side4 => exact (Kd.R_reads' HO241.out).2.1); rintro e w' ⟨rfl, ⟨nd, rfl⟩⟩) | (go_at_call 3; (with_reducible refine (salvorlaw9_ArgRuns.calls kj2  t246 _ A16.out ?tb8_).mono ?_); (case tb8_ => exact tb_ HTAB HB); rintro e w29 ⟨rfl, hb⟩; have n0_ := Aside0.mk (Kd.R_below (by (with_reducible repeat (first | apply Kd.R_alloc | apply Kd.R_drewN | apply Kd.R_drew)); exact (Kd.R_mono (Kd.R_far (p := ⟨gb243, 1, none⟩) (Kd.R_far (p := ⟨gb243, 0, none⟩) (Kd.R_types HO230.out BK243.out (by decide)) (fun _ hk => hk.2) (.slice Ao24 t236.length co24)) (fun _ hk => hk.2) (.slice Ao27 t239.length co27)) (fun _ h_ => h_.1))) hb); have n1_ := Aside0.mk (Kd.R_below (by (with_reducible repeat (first | apply Kd.R_alloc | apply Kd.R_drewN | apply Kd.R_drew)); exact (Kd.R_mono (Kd.R_far (p := ⟨gb243, 1, none⟩) (Kd.R_far (p := ⟨gb243, 0, none⟩) (Kd.R_types HO233.out BK243.out (by decide)) (fun _ hk => hk.2) (.slice Ao24 t236.length co24)) (fun _ hk => hk.2) (.slice Ao27 t239.length co27)) (fun _ h_ => h_.1))) hb); have n2_ := Aside0.mk (Kd.R_below (by (with_reducible repeat (first | apply Kd.R_alloc | apply Kd.R_drewN | apply Kd.R_drew)); exact (Kd.R_mono (Kd.R_far (p := ⟨gb243, 1, none⟩) (Kd.R_far (p := ⟨gb243, 0, none⟩) (Kd.R_types HO238.out BK243.out (by decide)) (fun _ hk => hk.2) (.slice Ao24 t236.length co24)) (fun _ hk => hk.2) (.slice Ao27 t239.length co27)) (fun _ h_ => h_.1))) hb); have n3_ := Aside0.mk (Kd.R_below (by (with_reducible repeat (first | apply Kd.R_alloc | apply Kd.R_drewN | apply Kd.R_drew)); exact (Kd.R_mono (Kd.R_far (p := ⟨gb243, 1, none⟩) (Kd.R_far (p := ⟨gb243, 0, none⟩) (Kd.R_types HO241.out BK243.out (by decide)) (fun _ hk => hk.2) (.slice Ao24 t236.length co24)) (fun _ hk => hk.2) (.slice Ao27 t239.length co27)) (fun _ h_ => h_.1))) hb); have n4_ := Aside0.mk (blk_below (g := gb235) (o := .cells #[.slice Ao19 t228.length co19, .slice Ao21 t231.length co21] 25 (0, 0)) (bp_ BK235) hb); have n5_ := Aside0.mk (blk_below (g := gb243) (o := .cells #[.slice Ao24 t236.length co24, .slice Ao27 t239.length co27] 25 (0, 0)) (bp_ BK243) hb); have n6_ := bs_ HB hb; clear HO230; clear HO233; clear HO238; clear HO241; clear BK235; clear BK243; clear HB; have HO230 := n0_; have HO233 := n1_; have HO238 := n2_; have HO241 := n3_; have BK235 := n4_; have BK243 := n5_; have HB := n6_; clear n0_ n1_ n2_ n3_ n4_ n5_ n6_; (try clear hb)))
       go_ret
       exact ⟨by first | rfl | (simp [errW_none, errW_some] <;> rfl) | (simp [*, errW_none, errW_some] <;> rfl), bh_ HB⟩
      ·rw [if_neg c15] at H
       have c15b0 : (t234 == t242) = false := by simpa using c15
       (try (have c15b1 : decide (t234 = t242) = false := by simpa using c15))
       (try (have c15b2 : (t234 == t242) = false := by simpa using c15))
       (try (have c15b3 : ¬ (t234 = t242) := by simpa using c15))
       clear c15
       exact absurd ((Option.some.inj H).trans HT.out) (by simp)
     ·replace c14 := Bool.eq_false_iff.mpr c14
      subst c14
      have H1 : (some false) = some r := by rw [if_neg (show ¬ (false = true) by decide)] at H; exact H
      clear H
      have H := H1
      clear H1
      exact absurd ((Option.some.inj H).trans HT.out) (by simp)
    ·replace c12 := Bool.eq_false_iff.mpr c12
     subst c12
     have H1 : (some false) = some r := by rw [if_neg (show ¬ (false = true) by decide)] at H; exact H
     clear H
     have H := H1
     clear H1
     exact absurd ((Option.some.inj H).trans HT.out) (by simp)

end Go.Proofs.YtlginoicaeonhaaDoor.P
