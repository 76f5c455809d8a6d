/- Laid by a program of this session's own (wip/wprint.py, over the kit's print.py): functions of the given program as plain Lean functions, and that the program's calls come to their answers. -/
import Derived.Test.YtlcablcpcbmgeaaGreatDoorPx0
import Derived.Test.YtlcablcpcbmgeaaGreatDoorPx5
import Derived.Test.YtlcablcpcbmgeaaGreatDoorPx10
import Derived.Test.YtlcablcpcbmgeaaGreatDoorPx21
import Derived.Test.YtlcablcpcbmgeaaGreatDoorPx22
import Derived.Test.YtlcablcpcbmgeaaGreatDoorPx23
namespace Go.Proofs.YtlcablcpcbmgeaaGreatDoor.P
open Go.RowKit Go.Proofs.YtlcablcpcbmgeaaGreatDoorW.PrintWords Go.Proofs.YtlcablcpcbmgeaaGreatDoorW.PrintLast Go.Proofs.YtlcablcpcbmgeaaGreatDoorW.PrintMore
attribute [local go_sem] max2_int min2_int max_two min_two max_three min_three max_four min_four   -- for this text's walks alone
set_option linter.unusedVariables false
set_option linter.unusedSimpArgs false

/-! ### salvorlaw17_MapBack: function 7 -/
def salvorlaw17_MapBack.j0 : Nat → Bool → Int → Int → Int → List (S23) → Option (Bool)
 | 0, _, _, _, _, _ => none
 | k + 1, x14, x333000, x333001, x333002, x333003 => if x14 = true then ((salvorlaw17_MapRuns.f k).bind fun t335 => (some t335)) else ((maptext_Print.f k x333000 x333001 x333002 x333003).bind fun t336 => ((maptext_Parse.f k t336).bind fun bt337 => (if t336.toList = ([] : List UInt8) then (some false) else (if bt337.2.2.2.2 = 0 then ((salvorref16_SameMap.f k bt337.1 bt337.2.1 bt337.2.2.1 bt337.2.2.2.1 x333000 x333001 x333002 x333003).bind fun t345 => (if t345 = true then ((maptext_Print.f k bt337.1 bt337.2.1 bt337.2.2.1 bt337.2.2.2.1).bind fun t346 => (if t346.toList = t336.toList then ((salvorlaw17_MapRuns.f k).bind fun t347 => (some t347)) else (some false))) else (some false))) else (some false)))))
def salvorlaw17_MapBack.f (k : Nat) (a0_0 : Int) (a0_1 : Int) (a0_2 : Int) (l0_3 : List (S23)) : Option (Bool) := (salvorlaw16_Few.f l0_3).bind fun t333 => (if t333 = true then ((maptext_May.f k a0_0 a0_1 a0_2 l0_3).bind fun t334 => (salvorlaw17_MapBack.j0 k (!t334) a0_0 a0_1 a0_2 l0_3)) else (salvorlaw17_MapBack.j0 k true a0_0 a0_1 a0_2 l0_3))
theorem salvorlaw17_MapBack.mono_l : ∀ k, (∀ y0 y1 y2 y3 y4, LeO (salvorlaw17_MapBack.j0 k y0 y1 y2 y3 y4) (salvorlaw17_MapBack.j0 (k + 1) y0 y1 y2 y3 y4))
 | 0 => fun _ _ _ _ _ r h => by simp [salvorlaw17_MapBack.j0] at h
 | k + 1 => by
  have ih0 := salvorlaw17_MapBack.mono_l k
  ·intro y0 y1 y2 y3 y4
   unfold salvorlaw17_MapBack.j0
   repeat' first
   | (with_reducible exact ih0 _ _ _ _ _)
   | (with_reducible exact maptext_May.mono _ _ _ _ _)
   | (with_reducible exact maptext_Parse.mono _ _)
   | (with_reducible exact maptext_Print.mono _ _ _ _ _)
   | (with_reducible exact salvorlaw17_MapRuns.mono _)
   | (with_reducible exact salvorref16_SameMap.mono _ _ _ _ _ _ _ _ _)
   | (with_reducible exact LeO.refl _)
   | (with_reducible exact LeO.none _)
   | (with_reducible refine LeO.ite ?_ ?_)
   | (with_reducible refine LeO.bind ?_ (fun _ => ?_))
   | exact ih0 _ _ _ _ _
   | exact maptext_May.mono _ _ _ _ _
   | exact maptext_Parse.mono _ _
   | exact maptext_Print.mono _ _ _ _ _
   | exact salvorlaw17_MapRuns.mono _
   | exact salvorref16_SameMap.mono _ _ _ _ _ _ _ _ _
   | exact LeO.none _
   | refine LeO.ite ?_ ?_
   | refine LeO.bind ?_ (fun _ => ?_)
theorem salvorlaw17_MapBack.mono : ∀ a0 a1 a2 a3 k, LeO (salvorlaw17_MapBack.f k a0 a1 a2 a3) (salvorlaw17_MapBack.f (k + 1) a0 a1 a2 a3) := by
 intro a0 a1 a2 a3 k
 have ih0 := salvorlaw17_MapBack.mono_l k
 unfold salvorlaw17_MapBack.f
 repeat' first
   | (with_reducible exact ih0 _ _ _ _ _)
   | (with_reducible exact maptext_May.mono _ _ _ _ _)
   | (with_reducible exact maptext_Parse.mono _ _)
   | (with_reducible exact maptext_Print.mono _ _ _ _ _)
   | (with_reducible exact salvorlaw17_MapRuns.mono _)
   | (with_reducible exact salvorref16_SameMap.mono _ _ _ _ _ _ _ _ _)
   | (with_reducible exact LeO.refl _)
   | (with_reducible exact LeO.none _)
   | (with_reducible refine LeO.ite ?_ ?_)
   | (with_reducible refine LeO.bind ?_ (fun _ => ?_))
   | exact ih0 _ _ _ _ _
   | exact maptext_May.mono _ _ _ _ _
   | exact maptext_Parse.mono _ _
   | exact maptext_Print.mono _ _ _ _ _
   | exact salvorlaw17_MapRuns.mono _
   | exact salvorref16_SameMap.mono _ _ _ _ _ _ _ _ _
   | exact LeO.none _
   | refine LeO.ite ?_ ?_
   | refine LeO.bind ?_ (fun _ => ?_)
set_option maxHeartbeats 8000000 in
set_option maxRecDepth 100000 in
theorem salvorlaw17_MapBack.calls (k : Nat) (a0_0 : Int) (a0_1 : Int) (a0_2 : Int) (A0_3 : Option Addr) (c0_3 : Nat) (l0_3 : List (S23)) (r : Bool) (w : World) (hr0_3 : Kd.C k23 w A0_3 l0_3.length l0_3) (hc0_3 : l0_3.length ≤ c0_3) (h : salvorlaw17_MapBack.f k a0_0 a0_1 a0_2 l0_3 = some r) (htab : TabAt w) (hrt : r = true) :
  Calls Tryz.prog 7 #[.agg #[.int .i64 a0_0, .int .i64 a0_1, .int .u8 a0_2, .slice A0_3 l0_3.length c0_3]] w fun e w' => e = .returned (.bool r) ∧ Below w.heap.size w w' := by
 have HT := Aside0.mk hrt
 clear hrt
 have HTAB := Aside0.mk htab
 clear htab
 have hu26 := Tryz.underlying26
 have HR0_3 := Aside0.mk hr0_3
 have HC0_3 := Aside0.mk hc0_3
 clear hr0_3 hc0_3
 have HB := Aside0.mk (Below.refl w.heap.size w)
 have H : ((salvorlaw16_Few.f l0_3).bind fun t333 => (if t333 = true then ((maptext_May.f k a0_0 a0_1 a0_2 l0_3).bind fun t334 => (salvorlaw17_MapBack.j0 k (!t334) a0_0 a0_1 a0_2 l0_3)) else (salvorlaw17_MapBack.j0 k true a0_0 a0_1 a0_2 l0_3))) = some r := h
 clear h
 have HC2 := Aside0.mk H
 clear H
 go_enter Tryz.func7, Tryz.ntmps7
 go_upto_region 1 with (first | ((with_reducible refine gate_dst (N := 1) rfl ?_); refine box_e 1 #[.int .i64 a0_0, .int .i64 a0_1, .int .u8 a0_2, .slice A0_3 l0_3.length c0_3] 26 ?_; intro gb332 hg w3 hbox hb; have BK332 := Aside0.mk hbox; have GW332 := bg_ HB hg; have GE332 := bg_ HB hg; replace HB := bs_ HB hb; clear hb hbox hg))
 (try simp only [Act.put, List.setIfInBounds_toArray, List.set_cons_zero, List.set_cons_succ])
 go_cut [14] (fun v14 wc => ∃ (kq : Nat) (x14_1 : Bool), v14 = .bool x14_1 ∧ Aside0 (salvorlaw17_MapBack.j0 kq x14_1 a0_0 a0_1 a0_2 l0_3 = some r) ∧ Aside0 (kq ≤ k) ∧ Aside0 (wc.heap[gb332]? = some (.cells #[.int .i64 a0_0, .int .i64 a0_1, .int .u8 a0_2, (.slice A0_3 l0_3.length c0_3)] 26 (0, 0))) ∧ Aside0 (Below w.heap.size w wc))
 case first =>
  have H := HC2.out
  clear HC2
  replace H := Option.bind_eq_some_iff.mp H
  obtain ⟨t333, A40, H⟩ := H
  replace H : (if t333 = true then ((maptext_May.f k a0_0 a0_1 a0_2 l0_3).bind fun t334 => (salvorlaw17_MapBack.j0 k (!t334) a0_0 a0_1 a0_2 l0_3)) else (salvorlaw17_MapBack.j0 k true a0_0 a0_1 a0_2 l0_3)) = some r := H
  have A4 := Aside0.mk A40
  clear A40
  by_cases c5 : t333 = true
  ·subst c5
   have H1 : ((maptext_May.f k a0_0 a0_1 a0_2 l0_3).bind fun t334 => (salvorlaw17_MapBack.j0 k (!t334) a0_0 a0_1 a0_2 l0_3)) = some r := by rw [if_pos rfl] at H; exact H
   clear H
   have H := H1
   clear H1
   replace H := Option.bind_eq_some_iff.mp H
   obtain ⟨t334, A60, H⟩ := H
   replace H : (salvorlaw17_MapBack.j0 k (!t334) a0_0 a0_1 a0_2 l0_3) = some r := H
   have A6 := Aside0.mk A60
   clear A60
   have H' := Aside0.mk H
   clear H
   obtain ⟨hcz7_0, hcz7_1, hcz7_2, hcz7_3, hfz7_0, hfz7_1, hfz7_2, hfz7_3⟩ := c4_ BK332
   go_wp2_with (first | ((with_reducible refine gate_callee (f := 14) rfl ?_); refine gl_ (some 8) rfl rfl Tryz.func14 (by kernel_rfl) rfl #[.slice A0_3 l0_3.length c0_3] rfl ?_; (with_reducible refine (salvorlaw16_Few.calls _ _ l0_3 true _ ?side1 ?side2 A4.out).mono ?_); (case side1 => exact cb_ HR0_3 HB); (case side2 => exact HC0_3.out); rintro e w' ⟨rfl, ⟨nd, rfl⟩⟩; refine ⟨_, rfl, ?_⟩) | (go_at_call 13; (with_reducible refine (maptext_May.calls k a0_0 a0_1 a0_2 _ _ l0_3 t334 _ ?side1 ?side2 A6.out).mono ?_); (case side1 => repeat (first | exact (Kd.C_below HR0_3.out (bh_ HB)) | (with_reducible refine Kd.C_alloc ?_ _) | (with_reducible refine Kd.C_drewN ?_ _) | (with_reducible refine Kd.C_drew ?_))); (case side2 => exact HC0_3.out); rintro e w8 ⟨rfl, hb⟩; replace BK332 := bb_ BK332 hb; replace HB := bs_ HB hb; (try clear hb)))
   go_meet
   case rel => exact ⟨_, (!t334), (by first | rfl | (simp; done) | (simp [*]; done)), H', ⟨by first | omega | exact Nat.le_refl _⟩, ⟨bq_ BK332⟩, ⟨bh_ HB⟩⟩
  ·replace c5 := Bool.eq_false_iff.mpr c5
   subst c5
   have H1 : (salvorlaw17_MapBack.j0 k true a0_0 a0_1 a0_2 l0_3) = some r := by rw [if_neg (show ¬ (false = true) by decide)] at H; exact H
   clear H
   have H := H1
   clear H1
   have H' := Aside0.mk H
   clear H
   obtain ⟨hcz9_0, hcz9_1, hcz9_2, hcz9_3, hfz9_0, hfz9_1, hfz9_2, hfz9_3⟩ := c4_ BK332
   go_wp2_with (first | ((with_reducible refine gate_callee (f := 14) rfl ?_); refine gl_ (some 8) rfl rfl Tryz.func14 (by kernel_rfl) rfl #[.slice A0_3 l0_3.length c0_3] rfl ?_; (with_reducible refine (salvorlaw16_Few.calls _ _ l0_3 false _ ?side1 ?side2 A4.out).mono ?_); (case side1 => exact cb_ HR0_3 HB); (case side2 => exact HC0_3.out); rintro e w' ⟨rfl, ⟨nd, rfl⟩⟩; refine ⟨_, rfl, ?_⟩))
   go_meet
   case rel => exact ⟨_, (true), (by first | rfl | (simp; done) | (simp [*]; done)), H', ⟨by first | omega | exact Nat.le_refl _⟩, ⟨bq_ BK332⟩, ⟨bh_ HB⟩⟩
 case rest =>
  clear HC2
  try clear c1
  try clear p2
  try clear c5
  try clear c7
  try clear hcz7_0 hcz7_1 hcz7_2 hcz7_3
  try clear hcz9_0 hcz9_1 hcz9_2 hcz9_3
  try clear hfz7_0 hfz7_1 hfz7_2 hfz7_3
  try clear hfz9_0 hfz9_1 hfz9_2 hfz9_3
  obtain ⟨kq, x14_1, rfl, HA, HJ1, BK332, HB⟩ := hcut
  cases kq with
  | zero => exact absurd HA.out (by simp [salvorlaw17_MapBack.j0])
  | succ kj1 =>
   have H := HA.out
   clear HA
   simp only [salvorlaw17_MapBack.j0] at H
   by_cases c10 : x14_1 = true
   ·subst c10
    have H1 : ((salvorlaw17_MapRuns.f kj1).bind fun t335 => (some t335)) = some r := by rw [if_pos rfl] at H; exact H
    clear H
    have H := H1
    clear H1
    replace H := Option.bind_eq_some_iff.mp H
    obtain ⟨t335, A110, H⟩ := H
    replace H : (some t335) = some r := H
    have A11 := Aside0.mk A110
    clear A110
    obtain rfl := Option.some.inj H
    go_wp2_with (first | ((with_reducible refine gate_callee (f := 3) rfl ?_); refine gl_ (some 15) rfl rfl Tryz.func3 (by kernel_rfl) rfl #[] rfl ?_; (with_reducible refine (salvorlaw17_MapRuns.calls kj1  t335 _ A11.out ?tb0_).mono ?_); (case tb0_ => exact tb_ HTAB HB); rintro e w12 ⟨rfl, hb⟩; refine ⟨_, rfl, ?_⟩; replace BK332 := bb_ BK332 hb; replace HB := bs_ HB hb; (try clear hb)))
    go_ret
    exact ⟨by first | rfl | (simp [errW_none, errW_some] <;> rfl) | (simp [*, errW_none, errW_some] <;> rfl), bh_ HB⟩
   ·replace c10 := Bool.eq_false_iff.mpr c10
    subst c10
    have H1 : ((maptext_Print.f kj1 a0_0 a0_1 a0_2 l0_3).bind fun t336 => ((maptext_Parse.f kj1 t336).bind fun bt337 => (if t336.toList = ([] : List UInt8) then (some false) else (if bt337.2.2.2.2 = 0 then ((salvorref16_SameMap.f kj1 bt337.1 bt337.2.1 bt337.2.2.1 bt337.2.2.2.1 a0_0 a0_1 a0_2 l0_3).bind fun t345 => (if t345 = true then ((maptext_Print.f kj1 bt337.1 bt337.2.1 bt337.2.2.1 bt337.2.2.2.1).bind fun t346 => (if t346.toList = t336.toList then ((salvorlaw17_MapRuns.f kj1).bind fun t347 => (some t347)) else (some false))) else (some false))) else (some false))))) = some r := by rw [if_neg (show ¬ (false = true) by decide)] at H; exact H
    clear H
    have H := H1
    clear H1
    replace H := Option.bind_eq_some_iff.mp H
    obtain ⟨t336, A130, H⟩ := H
    replace H : ((maptext_Parse.f kj1 t336).bind fun bt337 => (if t336.toList = ([] : List UInt8) then (some false) else (if bt337.2.2.2.2 = 0 then ((salvorref16_SameMap.f kj1 bt337.1 bt337.2.1 bt337.2.2.1 bt337.2.2.2.1 a0_0 a0_1 a0_2 l0_3).bind fun t345 => (if t345 = true then ((maptext_Print.f kj1 bt337.1 bt337.2.1 bt337.2.2.1 bt337.2.2.2.1).bind fun t346 => (if t346.toList = t336.toList then ((salvorlaw17_MapRuns.f kj1).bind fun t347 => (some t347)) else (some false))) else (some false))) else (some false)))) = some r := H
    have A13 := Aside0.mk A130
    clear A130
    replace H := Option.bind_eq_some_iff.mp H
    obtain ⟨⟨t337, t338, t339, t340, t343⟩, A140, H⟩ := H
    replace H : (if t336.toList = ([] : List UInt8) then (some false) else (if t343 = 0 then ((salvorref16_SameMap.f kj1 t337 t338 t339 t340 a0_0 a0_1 a0_2 l0_3).bind fun t345 => (if t345 = true then ((maptext_Print.f kj1 t337 t338 t339 t340).bind fun t346 => (if t346.toList = t336.toList then ((salvorlaw17_MapRuns.f kj1).bind fun t347 => (some t347)) else (some false))) else (some false))) else (some false))) = some r := H
    have A14 := Aside0.mk A140
    clear A140
    by_cases c15 : t336.toList = ([] : List UInt8)
    ·rw [if_pos c15] at H
     have c15b0 : (t336.toList == ([] : List UInt8)) = true := beq_iff_eq.mpr c15
     have c15b1 : (t336.toList != ([] : List UInt8)) = false := bne_eq_false_iff_eq.mpr c15
     clear c15
     exact absurd ((Option.some.inj H).trans HT.out) (by simp)
    ·rw [if_neg c15] at H
     have c15b0 : (t336.toList == ([] : List UInt8)) = false := beq_eq_false_iff_ne.mpr c15
     have c15b1 : (t336.toList != ([] : List UInt8)) = true := bne_iff_ne.mpr c15
     by_cases c16 : t343 = 0
     ·rw [if_pos c16] at H
      have c16b0 : (t343 == 0) = true := beq_iff_eq.mpr c16
      have c16b1 : (t343 != 0) = false := bne_eq_false_iff_eq.mpr c16
      clear c16
      replace H := Option.bind_eq_some_iff.mp H
      obtain ⟨t345, A170, H⟩ := H
      replace H : (if t345 = true then ((maptext_Print.f kj1 t337 t338 t339 t340).bind fun t346 => (if t346.toList = t336.toList then ((salvorlaw17_MapRuns.f kj1).bind fun t347 => (some t347)) else (some false))) else (some false)) = some r := H
      have A17 := Aside0.mk A170
      clear A170
      by_cases c18 : t345 = true
      ·subst c18
       have H1 : ((maptext_Print.f kj1 t337 t338 t339 t340).bind fun t346 => (if t346.toList = t336.toList then ((salvorlaw17_MapRuns.f kj1).bind fun t347 => (some t347)) else (some false))) = some r := by rw [if_pos rfl] at H; exact H
       clear H
       have H := H1
       clear H1
       replace H := Option.bind_eq_some_iff.mp H
       obtain ⟨t346, A190, H⟩ := H
       replace H : (if t346.toList = t336.toList then ((salvorlaw17_MapRuns.f kj1).bind fun t347 => (some t347)) else (some false)) = some r := H
       have A19 := Aside0.mk A190
       clear A190
       by_cases c20 : t346.toList = t336.toList
       ·rw [if_pos c20] at H
        have c20b0 : (t346.toList == t336.toList) = true := beq_iff_eq.mpr c20
        have c20b1 : (t346.toList != t336.toList) = false := bne_eq_false_iff_eq.mpr c20
        clear c20
        replace H := Option.bind_eq_some_iff.mp H
        obtain ⟨t347, A210, H⟩ := H
        replace H : (some t347) = some r := H
        have A21 := Aside0.mk A210
        clear A210
        obtain rfl := Option.some.inj H
        obtain ⟨hcz22_0, hcz22_1, hcz22_2, hcz22_3, hfz22_0, hfz22_1, hfz22_2, hfz22_3⟩ := c4_ BK332
        go_wp2_with (first | ((with_reducible refine gate_callee (f := 10) rfl ?_); refine gl_ (some 17) rfl rfl Tryz.func10 (by kernel_rfl) rfl #[.agg #[.int .i64 a0_0, .int .i64 a0_1, .int .u8 a0_2, .slice A0_3 l0_3.length c0_3]] rfl ?_; (with_reducible refine (maptext_Print.calls kj1 a0_0 a0_1 a0_2 _ _ l0_3 t336 _ ?side1 ?side2 A13.out ?tb2_).mono ?_); (case tb2_ => exact tb_ HTAB HB); (case side1 => exact cb_ HR0_3 HB); (case side2 => exact HC0_3.out); rintro e w23 ⟨rfl, hb⟩; refine ⟨_, rfl, ?_⟩; replace BK332 := bb_ BK332 hb; replace HB := bs_ HB hb; (try clear hb)) | ((with_reducible refine gate_callee (f := 11) rfl ?_); refine gl_ (some 20) rfl rfl Tryz.func11 (by kernel_rfl) rfl #[.string t336] rfl ?_; (with_reducible refine (maptext_Parse.calls kj1 t336 t337 t338 t339 t340 t343 _ A14.out ?tb4_).mono ?_); (case tb4_ => exact tb_ HTAB HB); rintro e w24 ⟨v341, rfl, ho0, hb⟩; refine ⟨_, rfl, ?_⟩; have HO342 := Aside0.mk (Kd.R_lower ho0 (below_size (bh_ HB))); replace BK332 := bb_ BK332 hb; replace HB := bs_ HB hb; (try clear hb); (try clear hb2); (try clear hk); (try clear hi); (try clear ho0)) | ((with_reducible refine gate_dst (N := 4) rfl ?_); refine box_e 4 #[.int .i64 0, .int .i64 0, .int .u8 0, .slice none 0 0] 26 ?_; intro gb344 hg w25 hbox hb; have n0_ := Aside0.mk (Kd.R_below (by (with_reducible repeat (first | apply Kd.R_alloc | apply Kd.R_drewN | apply Kd.R_drew)); exact HO342.out) hb); have n1_ := bb_ BK332 hb; have n2_ := bs_ HB hb; have n3_ := Aside0.mk hbox; have n4_ := bg_ HB hg; have n5_ := bg_ HB hg; have n6_ := bn_ BK332 hg; have n7_ := bm_ BK332 hg; clear HO342; clear BK332; clear HB; have HO342 := n0_; have BK332 := n1_; have HB := n2_; have BK344 := n3_; have GW344 := n4_; have GE344 := n5_; have NB332_344 := n6_; have NB344_332 := n7_; clear n0_ n1_ n2_ n3_ n4_ n5_ n6_ n7_; clear hb hbox hg; have hnb26 := NB344_332.out; have hnc26 := NB332_344.out; obtain ⟨hcz27_0, hcz27_1, hcz27_2, hcz27_3, hfz27_0, hfz27_1, hfz27_2, hfz27_3⟩ := c4_ BK344; obtain ⟨Ao28, co28, eo28⟩ := Kd.R_slice HO342.out; subst eo28; obtain ⟨hcz29_0, hcz29_1, hcz29_2, hcz29_3, hfz29_0, hfz29_1, hfz29_2, hfz29_3⟩ := c4_ BK332) | (go_at_call 12; (with_reducible refine (salvorref16_SameMap.calls kj1 t337 t338 t339 _ _ t340 a0_0 a0_1 a0_2 _ _ l0_3 true _ ?side1 ?side2 ?side3 ?side4 A17.out).mono ?_); (case side1 => refine (Kd.R_reads' (e := 23) (base := w.heap.size) (ok := fun k_ => True) (n := t340.length) (c := co28) ?_).2.2; exact (by (with_reducible repeat (first | apply Kd.R_alloc | apply Kd.R_drewN | apply Kd.R_drew)); exact (Kd.R_mono (Kd.R_far (p := ⟨gb344, 3, none⟩) (Kd.R_far (p := ⟨gb344, 2, none⟩) (Kd.R_far (p := ⟨gb344, 1, none⟩) (Kd.R_far (p := ⟨gb344, 0, none⟩) (Kd.R_types HO342.out BK344.out (by decide)) (fun _ hk => hk.2) (.int .i64 t337)) (fun _ hk => hk.2) (.int .i64 t338)) (fun _ hk => hk.2) (.int .u8 t339)) (fun _ hk => hk.2) (.slice Ao28 t340.length co28)) (fun _ h_ => h_.1)))); (case side2 => exact (Kd.R_reads' HO342.out).2.1); (case side3 => exact Kd.C_below HR0_3.out (bh_ HB)); (case side4 => exact HC0_3.out); rintro e w30 ⟨rfl, hb⟩; have n0_ := Aside0.mk (Kd.R_below (by (with_reducible repeat (first | apply Kd.R_alloc | apply Kd.R_drewN | apply Kd.R_drew)); exact (Kd.R_mono (Kd.R_far (p := ⟨gb344, 3, none⟩) (Kd.R_far (p := ⟨gb344, 2, none⟩) (Kd.R_far (p := ⟨gb344, 1, none⟩) (Kd.R_far (p := ⟨gb344, 0, none⟩) (Kd.R_types HO342.out BK344.out (by decide)) (fun _ hk => hk.2) (.int .i64 t337)) (fun _ hk => hk.2) (.int .i64 t338)) (fun _ hk => hk.2) (.int .u8 t339)) (fun _ hk => hk.2) (.slice Ao28 t340.length co28)) (fun _ h_ => h_.1))) hb); have n1_ := Aside0.mk (blk_below (g := gb332) (o := .cells #[.int .i64 a0_0, .int .i64 a0_1, .int .u8 a0_2, .slice A0_3 l0_3.length c0_3] 26 (0, 0)) (bp_ BK332) hb); have n2_ := Aside0.mk (blk_below (g := gb344) (o := .cells #[.int .i64 t337, .int .i64 t338, .int .u8 t339, .slice Ao28 t340.length co28] 26 (0, 0)) (bp_ BK344) hb); have n3_ := bs_ HB hb; clear HO342; clear BK332; clear BK344; clear HB; have HO342 := n0_; have BK332 := n1_; have BK344 := n2_; have HB := n3_; clear n0_ n1_ n2_ n3_; (try clear hb); obtain ⟨hcz31_0, hcz31_1, hcz31_2, hcz31_3, hfz31_0, hfz31_1, hfz31_2, hfz31_3⟩ := c4_ BK344) | (go_at_call 10; (with_reducible refine (maptext_Print.calls kj1 t337 t338 t339 _ _ t340 t346 _ ?side1 ?side2 A19.out ?tb6_).mono ?_); (case tb6_ => exact tb_ HTAB HB); (case side1 => repeat (first | exact (Kd.R_reads' HO342.out).2.2 | (with_reducible refine Kd.C_alloc ?_ _) | (with_reducible refine Kd.C_drewN ?_ _) | (with_reducible refine Kd.C_drew ?_))); (case side2 => exact (Kd.R_reads' HO342.out).2.1); rintro e w32 ⟨rfl, hb⟩; have n0_ := Aside0.mk (Kd.R_below (by (with_reducible repeat (first | apply Kd.R_alloc | apply Kd.R_drewN | apply Kd.R_drew)); exact HO342.out) hb); have n1_ := bb_ BK332 hb; have n2_ := bb_ BK344 hb; have n3_ := bs_ HB hb; clear HO342; clear BK332; clear BK344; clear HB; have HO342 := n0_; have BK332 := n1_; have BK344 := n2_; have HB := n3_; clear n0_ n1_ n2_ n3_; (try clear hb)) | (go_at_call 3; (with_reducible refine (salvorlaw17_MapRuns.calls kj1  t347 _ A21.out ?tb8_).mono ?_); (case tb8_ => exact tb_ HTAB HB); rintro e w33 ⟨rfl, hb⟩; have n0_ := Aside0.mk (Kd.R_below (by (with_reducible repeat (first | apply Kd.R_alloc | apply Kd.R_drewN | apply Kd.R_drew)); exact HO342.out) hb); have n1_ := bb_ BK332 hb; have n2_ := bb_ BK344 hb; have n3_ := bs_ HB hb; clear HO342; clear BK332; clear BK344; clear HB; have HO342 := n0_; have BK332 := n1_; have BK344 := n2_; have HB := n3_; clear n0_ n1_ n2_ n3_; (try clear hb)))
        go_ret
        exact ⟨by first | rfl | (simp [errW_none, errW_some] <;> rfl) | (simp [*, errW_none, errW_some] <;> rfl), bh_ HB⟩
       ·rw [if_neg c20] at H
        have c20b0 : (t346.toList == t336.toList) = false := beq_eq_false_iff_ne.mpr c20
        have c20b1 : (t346.toList != t336.toList) = true := bne_iff_ne.mpr c20
        exact absurd ((Option.some.inj H).trans HT.out) (by simp)
      ·replace c18 := Bool.eq_false_iff.mpr c18
       subst c18
       have H1 : (some false) = some r := by rw [if_neg (show ¬ (false = true) by decide)] at H; exact H
       clear H
       have H := H1
       clear H1
       exact absurd ((Option.some.inj H).trans HT.out) (by simp)
     ·rw [if_neg c16] at H
      have c16b0 : (t343 == 0) = false := beq_eq_false_iff_ne.mpr c16
      have c16b1 : (t343 != 0) = true := bne_iff_ne.mpr c16
      exact absurd ((Option.some.inj H).trans HT.out) (by simp)

/-! ### region_New: function 48 -/
def region_New.f (a0 : Int) : Option ((List (S23))) := if a0 < 1 then (some ([] : List (S23))) else (if a0 > 1099511627776 then (some ([] : List (S23))) else (some (([(⟨0, a0, 63⟩ : S23)] : List (S23)))))
set_option maxHeartbeats 8000000 in
set_option maxRecDepth 100000 in
theorem region_New.calls (a0 : Int) (r : List (S23)) (w : World) (h : region_New.f a0 = some r) :
    Calls Tryz.prog 48 #[.int .i64 a0] w fun e w' => ∃ v0_ : Value, e = .returned (v0_) ∧ Kd.R k23 23 w' w.heap.size (fun _ => True) v0_ r ∧ Below w.heap.size w w' := by
  have hu23 := Tryz.underlying23
  have HB := Aside0.mk (Below.refl w.heap.size w)
  have H : (if a0 < 1 then (some ([] : List (S23))) else (if a0 > 1099511627776 then (some ([] : List (S23))) else (some (([(⟨0, a0, 63⟩ : S23)] : List (S23)))))) = some r := h
  clear h
  by_cases c2 : a0 < 1
  · rw [if_pos c2] at H
    have c2b0 : decide (a0 < 1) = true := decide_eq_true c2
    clear c2
    obtain rfl := Option.some.inj H
    go_enter Tryz.func48, Tryz.ntmps48
    go_wp2
    go_ret
    exact ⟨_, by first | rfl | (simp [errW_none, errW_some] <;> rfl) | (simp [*, errW_none, errW_some] <;> rfl), by first | exact Kd.R_nil _ _ _ _ _ | exact Kd.N_nil _ _ _ _ _ | exact Kd.V_nil _ _ _ _ _ | exact Kd.Q_nil _ _ _ _ _ | exact Kd.S_nil _ _ _ _ _, bh_ HB⟩
  · rw [if_neg c2] at H
    have c2b0 : decide (a0 < 1) = false := decide_eq_false c2
    clear c2
    by_cases c3 : a0 > 1099511627776
    · rw [if_pos c3] at H
      have c3b0 : decide (1099511627776 < a0) = true := decide_eq_true c3
      clear c3
      obtain rfl := Option.some.inj H
      go_enter Tryz.func48, Tryz.ntmps48
      go_wp2
      go_ret
      exact ⟨_, by first | rfl | (simp [errW_none, errW_some] <;> rfl) | (simp [*, errW_none, errW_some] <;> rfl), by first | exact Kd.R_nil _ _ _ _ _ | exact Kd.N_nil _ _ _ _ _ | exact Kd.V_nil _ _ _ _ _ | exact Kd.Q_nil _ _ _ _ _ | exact Kd.S_nil _ _ _ _ _, bh_ HB⟩
    · rw [if_neg c3] at H
      have c3b0 : decide (1099511627776 < a0) = false := decide_eq_false c3
      clear c3
      obtain ⟨y348, hy348⟩ : ∃ y_ : List (S23), y_ = (([(⟨0, a0, 63⟩ : S23)] : List (S23))) := ⟨_, rfl⟩
      replace H : (some y348) = some r := by first | (rw [hy348]; with_reducible exact H) | (have H2_ := (Option.bind_some _ _).symm.trans H; rw [hy348]; with_reducible exact H2_) | (have H2_ := (Option.bind_some _ _).symm.trans H; with_reducible exact H2_) | with_reducible exact H | (rw [hy348]; exact H) | exact H
      have Ny348 := Aside0.mk hy348
      clear hy348
      obtain rfl := Option.some.inj H
      go_enter Tryz.func48, Tryz.ntmps48
      go_wp2_with (first | ((with_reducible refine gate_dst (N := 11) rfl ?_); refine Kd.R_lit k23 _ 23 ?hg (N := 11) ?hd (xs := ([(⟨0, a0, 63⟩ : S23)] : List (S23))) (inner := [.int .i64 0, .int .i64 a0, .int .u8 63]) (ok := fun _ => True) (okp := fun _ => True) ?hr ?hp (fun _ hk => hk) trivial (Below.refl _ _) (Nat.le_refl _) (by simp) ?_; (case hd => rfl); (case hg => rfl); (case hr => first | (go_simp; done) | (go_simp; rfl)); (case hp => exact (Reps.c3 (show Kd.M k23 _ _ _ (⟨0, a0, 63⟩ : S23) [.int .i64 0, .int .i64 a0, .int .u8 63] from (k23_mkM _ _ _ (⟨0, a0, 63⟩ : S23) )) (Reps.none _ _))); intro v349 w4 ho5 hb hg_ hnew_; clear hg_ hnew_; (first | rw [← Ny348.out] at ho5 | (simp only [Int.reduceToNat] at ho5; rw [← Ny348.out] at ho5)); have HO350 := Aside0.mk (Kd.R_lower ho5 (below_size (bh_ HB))); replace HB := bs_ HB hb; clear hb ho5))
      go_ret
      exact ⟨_, by first | rfl | (simp [errW_none, errW_some] <;> rfl) | (simp [*, errW_none, errW_some] <;> rfl), by (with_reducible repeat (first | apply Kd.R_alloc | apply Kd.R_drewN | apply Kd.R_drew)); exact HO350.out, bh_ HB⟩

end Go.Proofs.YtlcablcpcbmgeaaGreatDoor.P
