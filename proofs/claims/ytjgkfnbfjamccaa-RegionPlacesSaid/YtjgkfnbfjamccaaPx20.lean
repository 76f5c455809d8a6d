/- Laid by a program of this session's own (wip/wprint.py, over the kit's print.py): functions of the given program as plain Lean functions, and that the program's calls come to their answers. -/
import Derived.Test.YtjgkfnbfjamccaaPx0
import Derived.Test.YtjgkfnbfjamccaaPx1
import Derived.Test.YtjgkfnbfjamccaaPx7
import Derived.Test.YtjgkfnbfjamccaaPx8
import Derived.Test.YtjgkfnbfjamccaaPx11
import Derived.Test.YtjgkfnbfjamccaaPx18
import Derived.Test.YtjgkfnbfjamccaaPx19
namespace Go.Proofs.Ytjgkfnbfjamccaa.P
open Go.RowKit Go.Proofs.YtjgkfnbfjamccaaW.PrintWords Go.Proofs.YtjgkfnbfjamccaaW.PrintLast Go.Proofs.YtjgkfnbfjamccaaW.PrintMore
attribute [local go_sem] max2_int min2_int max_two min_two max_three min_three max_four min_four   -- for this text's walks alone
set_option linter.unusedVariables false
set_option linter.unusedSimpArgs false

attribute [local go_sem high] eqA26
/-! ### salvorlaw16_RegionSides: function 5 -/
def salvorlaw16_RegionSides.f (k : Nat) (l0 : List (S26)) (a1 : Int) (a2 : Int) : Option (Bool) := (salvorlaw16_Few.f l0).bind fun t251 => (if t251 = true then ((region_First.f k l0 a1 a2).bind fun bt253 => ((salvorref16_First.f k l0 a1 a2).bind fun bt258 => ((region_Last.f k l0 a1 a2).bind fun bt263 => ((salvorref16_Last.f k l0 a1 a2).bind fun bt268 => (if (bt253.1 == bt258.1 && (bt253.2.1 == bt258.2.1 && (bt253.2.2.1 == bt258.2.2.1))) = true then (if (bt253.2.2.2 == bt258.2.2.2) = true then (if (bt263.1 == bt268.1 && (bt263.2.1 == bt268.2.1 && (bt263.2.2.1 == bt268.2.2.1))) = true then (if (bt263.2.2.2 == bt268.2.2.2) = true then ((salvorlaw16_RegionRuns.f k).bind fun t273 => (some t273)) else (some false)) else (some false)) else (some false)) else (some false)))))) else ((salvorlaw16_RegionRuns.f k).bind fun t252 => (some t252)))
theorem salvorlaw16_RegionSides.mono : ∀ a0 a1 a2 k, LeO (salvorlaw16_RegionSides.f k a0 a1 a2) (salvorlaw16_RegionSides.f (k + 1) a0 a1 a2) := by
 intro a0 a1 a2 k
 unfold salvorlaw16_RegionSides.f
 repeat' first
   | (with_reducible exact region_First.mono _ _ _ _)
   | (with_reducible exact region_Last.mono _ _ _ _)
   | (with_reducible exact salvorlaw16_RegionRuns.mono _)
   | (with_reducible exact salvorref16_First.mono _ _ _ _)
   | (with_reducible exact salvorref16_Last.mono _ _ _ _)
   | (with_reducible exact LeO.refl _)
   | (with_reducible exact LeO.none _)
   | (with_reducible refine LeO.ite ?_ ?_)
   | (with_reducible refine LeO.bind ?_ (fun _ => ?_))
   | exact region_First.mono _ _ _ _
   | exact region_Last.mono _ _ _ _
   | exact salvorlaw16_RegionRuns.mono _
   | exact salvorref16_First.mono _ _ _ _
   | exact salvorref16_Last.mono _ _ _ _
   | exact LeO.none _
   | refine LeO.ite ?_ ?_
   | refine LeO.bind ?_ (fun _ => ?_)
set_option maxHeartbeats 8000000 in
set_option maxRecDepth 100000 in
theorem salvorlaw16_RegionSides.calls (k : Nat) (A0 : Option Addr) (c0 : Nat) (l0 : List (S26)) (a1 : Int) (a2 : Int) (r : Bool) (w : World) (hr0 : Kd.C k26 w A0 l0.length l0) (hc0 : l0.length ≤ c0) (h : salvorlaw16_RegionSides.f k l0 a1 a2 = some r) (hrt : r = true) :
  Calls Try.prog 5 #[.slice A0 l0.length c0, .int .u8 a1, .int .i64 a2] w fun e w' => e = .returned (.bool r) ∧ Below w.heap.size w w' := by
 have HT := Aside0.mk hrt
 clear hrt
 have hu26 := Try.underlying26
 have HR0 := Aside0.mk hr0
 have HC0 := Aside0.mk hc0
 clear hr0 hc0
 have HB := Aside0.mk (Below.refl w.heap.size w)
 have H : ((salvorlaw16_Few.f l0).bind fun t251 => (if t251 = true then ((region_First.f k l0 a1 a2).bind fun bt253 => ((salvorref16_First.f k l0 a1 a2).bind fun bt258 => ((region_Last.f k l0 a1 a2).bind fun bt263 => ((salvorref16_Last.f k l0 a1 a2).bind fun bt268 => (if (bt253.1 == bt258.1 && (bt253.2.1 == bt258.2.1 && (bt253.2.2.1 == bt258.2.2.1))) = true then (if (bt253.2.2.2 == bt258.2.2.2) = true then (if (bt263.1 == bt268.1 && (bt263.2.1 == bt268.2.1 && (bt263.2.2.1 == bt268.2.2.1))) = true then (if (bt263.2.2.2 == bt268.2.2.2) = true then ((salvorlaw16_RegionRuns.f k).bind fun t273 => (some t273)) else (some false)) else (some false)) else (some false)) else (some false)))))) else ((salvorlaw16_RegionRuns.f k).bind fun t252 => (some t252)))) = some r := h
 clear h
 replace H := Option.bind_eq_some_iff.mp H
 obtain ⟨t251, A40, H⟩ := H
 replace H : (if t251 = true then ((region_First.f k l0 a1 a2).bind fun bt253 => ((salvorref16_First.f k l0 a1 a2).bind fun bt258 => ((region_Last.f k l0 a1 a2).bind fun bt263 => ((salvorref16_Last.f k l0 a1 a2).bind fun bt268 => (if (bt253.1 == bt258.1 && (bt253.2.1 == bt258.2.1 && (bt253.2.2.1 == bt258.2.2.1))) = true then (if (bt253.2.2.2 == bt258.2.2.2) = true then (if (bt263.1 == bt268.1 && (bt263.2.1 == bt268.2.1 && (bt263.2.2.1 == bt268.2.2.1))) = true then (if (bt263.2.2.2 == bt268.2.2.2) = true then ((salvorlaw16_RegionRuns.f k).bind fun t273 => (some t273)) else (some false)) else (some false)) else (some false)) else (some false)))))) else ((salvorlaw16_RegionRuns.f k).bind fun t252 => (some t252))) = some r := H
 have A4 := Aside0.mk A40
 clear A40
 by_cases c5 : t251 = true
 ·subst c5
  have H1 : ((region_First.f k l0 a1 a2).bind fun bt253 => ((salvorref16_First.f k l0 a1 a2).bind fun bt258 => ((region_Last.f k l0 a1 a2).bind fun bt263 => ((salvorref16_Last.f k l0 a1 a2).bind fun bt268 => (if (bt253.1 == bt258.1 && (bt253.2.1 == bt258.2.1 && (bt253.2.2.1 == bt258.2.2.1))) = true then (if (bt253.2.2.2 == bt258.2.2.2) = true then (if (bt263.1 == bt268.1 && (bt263.2.1 == bt268.2.1 && (bt263.2.2.1 == bt268.2.2.1))) = true then (if (bt263.2.2.2 == bt268.2.2.2) = true then ((salvorlaw16_RegionRuns.f k).bind fun t273 => (some t273)) else (some false)) else (some false)) else (some false)) else (some false)))))) = some r := by rw [if_pos rfl] at H; exact H
  clear H
  have H := H1
  clear H1
  replace H := Option.bind_eq_some_iff.mp H
  obtain ⟨⟨t253, t254, t255, t256⟩, A60, H⟩ := H
  replace H : ((salvorref16_First.f k l0 a1 a2).bind fun bt258 => ((region_Last.f k l0 a1 a2).bind fun bt263 => ((salvorref16_Last.f k l0 a1 a2).bind fun bt268 => (if (t253 == bt258.1 && (t254 == bt258.2.1 && (t255 == bt258.2.2.1))) = true then (if (t256 == bt258.2.2.2) = true then (if (bt263.1 == bt268.1 && (bt263.2.1 == bt268.2.1 && (bt263.2.2.1 == bt268.2.2.1))) = true then (if (bt263.2.2.2 == bt268.2.2.2) = true then ((salvorlaw16_RegionRuns.f k).bind fun t273 => (some t273)) else (some false)) else (some false)) else (some false)) else (some false))))) = some r := H
  have A6 := Aside0.mk A60
  clear A60
  replace H := Option.bind_eq_some_iff.mp H
  obtain ⟨⟨t258, t259, t260, t261⟩, A70, H⟩ := H
  replace H : ((region_Last.f k l0 a1 a2).bind fun bt263 => ((salvorref16_Last.f k l0 a1 a2).bind fun bt268 => (if (t253 == t258 && (t254 == t259 && (t255 == t260))) = true then (if (t256 == t261) = true then (if (bt263.1 == bt268.1 && (bt263.2.1 == bt268.2.1 && (bt263.2.2.1 == bt268.2.2.1))) = true then (if (bt263.2.2.2 == bt268.2.2.2) = true then ((salvorlaw16_RegionRuns.f k).bind fun t273 => (some t273)) else (some false)) else (some false)) else (some false)) else (some false)))) = some r := H
  have A7 := Aside0.mk A70
  clear A70
  replace H := Option.bind_eq_some_iff.mp H
  obtain ⟨⟨t263, t264, t265, t266⟩, A80, H⟩ := H
  replace H : ((salvorref16_Last.f k l0 a1 a2).bind fun bt268 => (if (t253 == t258 && (t254 == t259 && (t255 == t260))) = true then (if (t256 == t261) = true then (if (t263 == bt268.1 && (t264 == bt268.2.1 && (t265 == bt268.2.2.1))) = true then (if (t266 == bt268.2.2.2) = true then ((salvorlaw16_RegionRuns.f k).bind fun t273 => (some t273)) else (some false)) else (some false)) else (some false)) else (some false))) = some r := H
  have A8 := Aside0.mk A80
  clear A80
  replace H := Option.bind_eq_some_iff.mp H
  obtain ⟨⟨t268, t269, t270, t271⟩, A90, H⟩ := H
  replace H : (if (t253 == t258 && (t254 == t259 && (t255 == t260))) = true then (if (t256 == t261) = true then (if (t263 == t268 && (t264 == t269 && (t265 == t270))) = true then (if (t266 == t271) = true then ((salvorlaw16_RegionRuns.f k).bind fun t273 => (some t273)) else (some false)) else (some false)) else (some false)) else (some false)) = some r := H
  have A9 := Aside0.mk A90
  clear A90
  by_cases c10 : (t253 == t258 && (t254 == t259 && (t255 == t260))) = true
  ·rw [if_pos c10] at H
   have c10b0 : (t253 == t258 && (t254 == t259 && (t255 == t260))) = true := c10
   (try (have c10b1 : decide (t253 = t258 && (t254 == t259 && (t255 == t260))) = true := by simpa using c10))
   (try (have c10b2 : (t253 == t258 && (t254 == t259 && (t255 == t260))) = true := by simpa using c10))
   clear c10
   by_cases c11 : (t256 == t261) = true
   ·rw [if_pos c11] at H
    have c11b0 : (t256 == t261) = true := c11
    (try (have c11b1 : decide (t256 = t261) = true := by simpa using c11))
    (try (have c11b2 : (t256 == t261) = true := by simpa using c11))
    clear c11
    by_cases c12 : (t263 == t268 && (t264 == t269 && (t265 == t270))) = true
    ·rw [if_pos c12] at H
     have c12b0 : (t263 == t268 && (t264 == t269 && (t265 == t270))) = true := c12
     (try (have c12b1 : decide (t263 = t268 && (t264 == t269 && (t265 == t270))) = true := by simpa using c12))
     (try (have c12b2 : (t263 == t268 && (t264 == t269 && (t265 == t270))) = true := by simpa using c12))
     clear c12
     by_cases c13 : (t266 == t271) = true
     ·rw [if_pos c13] at H
      have c13b0 : (t266 == t271) = true := c13
      (try (have c13b1 : decide (t266 = t271) = true := by simpa using c13))
      (try (have c13b2 : (t266 == t271) = true := by simpa using c13))
      clear c13
      replace H := Option.bind_eq_some_iff.mp H
      obtain ⟨t273, A140, H⟩ := H
      replace H : (some t273) = some r := H
      have A14 := Aside0.mk A140
      clear A140
      obtain rfl := Option.some.inj H
      go_enter Try.func5, Try.ntmps5
      go_wp2_with (first | ((with_reducible refine gate_callee (f := 17) rfl ?_); refine gl_ (some 16) rfl rfl Try.func17 (by kernel_rfl) rfl #[.slice A0 l0.length c0] rfl ?_; (with_reducible refine (salvorlaw16_Few.calls _ _ l0 true _ ?side1 ?side2 A4.out).mono ?_); (case side1 => repeat (first | exact HR0.out | (with_reducible refine Kd.C_alloc ?_ _) | (with_reducible refine Kd.C_drewN ?_ _) | (with_reducible refine Kd.C_drew ?_))); (case side2 => exact HC0.out); rintro e w' ⟨rfl, ⟨nd, rfl⟩⟩; refine ⟨_, rfl, ?_⟩) | ((with_reducible refine gate_callee (f := 12) rfl ?_); refine gl_ (some 23) rfl rfl Try.func12 (by kernel_rfl) rfl #[.slice A0 l0.length c0, .int .u8 a1, .int .i64 a2] rfl ?_; (with_reducible refine (region_First.calls k _ _ l0 a1 a2 t253 t254 t255 t256 _ ?side1 ?side2 A6.out).mono ?_); (case side1 => repeat (first | exact HR0.out | (with_reducible refine Kd.C_alloc ?_ _) | (with_reducible refine Kd.C_drewN ?_ _) | (with_reducible refine Kd.C_drew ?_))); (case side2 => exact HC0.out); rintro e w15 ⟨rfl, hb⟩; refine ⟨_, rfl, ?_⟩; replace HB := bs_ HB hb; (try clear hb)) | ((with_reducible refine gate_dst (N := 7) rfl ?_); refine box_e 7 #[.int .i64 0, .int .i64 0, .int .u8 0] 26 ?_; intro gb257 hg w16 hbox hb; have BK257 := Aside0.mk hbox; have GW257 := bg_ HB hg; have GE257 := bg_ HB hg; replace HB := bs_ HB hb; clear hb hbox hg; obtain ⟨hcz17_0, hcz17_1, hcz17_2, hfz17_0, hfz17_1, hfz17_2⟩ := c3_ BK257) | ((with_reducible refine gate_callee (f := 21) rfl ?_); refine gl_ (some 30) rfl rfl Try.func21 (by kernel_rfl) rfl #[.slice A0 l0.length c0, .int .u8 a1, .int .i64 a2] rfl ?_; (with_reducible refine (salvorref16_First.calls k _ _ l0 a1 a2 t258 t259 t260 t261 _ ?side1 ?side2 A7.out).mono ?_); (case side1 => exact Kd.C_below HR0.out (bh_ HB)); (case side2 => exact HC0.out); rintro e w18 ⟨rfl, hb⟩; refine ⟨_, rfl, ?_⟩; replace BK257 := Aside0.mk (blk_below (g := gb257) (o := .cells #[.int .i64 t253, .int .i64 t254, .int .u8 t255] 26 (0, 0)) (bp_ BK257) hb); replace HB := bs_ HB hb; (try clear hb)) | ((with_reducible refine gate_dst (N := 9) rfl ?_); refine box_e 9 #[.int .i64 0, .int .i64 0, .int .u8 0] 26 ?_; intro gb262 hg w19 hbox hb; have BK262 := Aside0.mk hbox; have GW262 := bg_ HB hg; have GE262 := bg_ HB hg; have NB257_262 := bn_ BK257 hg; have NB262_257 := bm_ BK257 hg; replace BK257 := bb_ BK257 hb; replace HB := bs_ HB hb; clear hb hbox hg; have hnb20 := NB262_257.out; have hnc20 := NB257_262.out; obtain ⟨hcz21_0, hcz21_1, hcz21_2, hfz21_0, hfz21_1, hfz21_2⟩ := c3_ BK262) | ((with_reducible refine gate_callee (f := 13) rfl ?_); refine gl_ (some 37) rfl rfl Try.func13 (by kernel_rfl) rfl #[.slice A0 l0.length c0, .int .u8 a1, .int .i64 a2] rfl ?_; (with_reducible refine (region_Last.calls k _ _ l0 a1 a2 t263 t264 t265 t266 _ ?side1 ?side2 A8.out).mono ?_); (case side1 => exact Kd.C_below HR0.out (bh_ HB)); (case side2 => exact HC0.out); rintro e w22 ⟨rfl, hb⟩; refine ⟨_, rfl, ?_⟩; replace BK257 := Aside0.mk (blk_below (g := gb257) (o := .cells #[.int .i64 t253, .int .i64 t254, .int .u8 t255] 26 (0, 0)) (bp_ BK257) hb); replace BK262 := Aside0.mk (blk_below (g := gb262) (o := .cells #[.int .i64 t258, .int .i64 t259, .int .u8 t260] 26 (0, 0)) (bp_ BK262) hb); replace HB := bs_ HB hb; (try clear hb)) | ((with_reducible refine gate_dst (N := 11) rfl ?_); refine box_e 11 #[.int .i64 0, .int .i64 0, .int .u8 0] 26 ?_; intro gb267 hg w23 hbox hb; have BK267 := Aside0.mk hbox; have GW267 := bg_ HB hg; have GE267 := bg_ HB hg; have NB257_267 := bn_ BK257 hg; have NB267_257 := bm_ BK257 hg; have NB262_267 := bn_ BK262 hg; have NB267_262 := bm_ BK262 hg; replace BK257 := bb_ BK257 hb; replace BK262 := bb_ BK262 hb; replace HB := bs_ HB hb; clear hb hbox hg; have hnb24 := NB267_257.out; have hnc24 := NB257_267.out; have hnb25 := NB267_262.out; have hnc25 := NB262_267.out; obtain ⟨hcz26_0, hcz26_1, hcz26_2, hfz26_0, hfz26_1, hfz26_2⟩ := c3_ BK267) | ((with_reducible refine gate_callee (f := 22) rfl ?_); refine gl_ (some 44) rfl rfl Try.func22 (by kernel_rfl) rfl #[.slice A0 l0.length c0, .int .u8 a1, .int .i64 a2] rfl ?_; (with_reducible refine (salvorref16_Last.calls k _ _ l0 a1 a2 t268 t269 t270 t271 _ ?side1 ?side2 A9.out).mono ?_); (case side1 => exact Kd.C_below HR0.out (bh_ HB)); (case side2 => exact HC0.out); rintro e w27 ⟨rfl, hb⟩; refine ⟨_, rfl, ?_⟩; replace BK257 := Aside0.mk (blk_below (g := gb257) (o := .cells #[.int .i64 t253, .int .i64 t254, .int .u8 t255] 26 (0, 0)) (bp_ BK257) hb); replace BK262 := Aside0.mk (blk_below (g := gb262) (o := .cells #[.int .i64 t258, .int .i64 t259, .int .u8 t260] 26 (0, 0)) (bp_ BK262) hb); replace BK267 := Aside0.mk (blk_below (g := gb267) (o := .cells #[.int .i64 t263, .int .i64 t264, .int .u8 t265] 26 (0, 0)) (bp_ BK267) hb); replace HB := bs_ HB hb; (try clear hb)) | ((with_reducible refine gate_dst (N := 13) rfl ?_); refine box_e 13 #[.int .i64 0, .int .i64 0, .int .u8 0] 26 ?_; intro gb272 hg w28 hbox hb; have BK272 := Aside0.mk hbox; have GW272 := bg_ HB hg; have GE272 := bg_ HB hg; have NB257_272 := bn_ BK257 hg; have NB272_257 := bm_ BK257 hg; have NB262_272 := bn_ BK262 hg; have NB272_262 := bm_ BK262 hg; have NB267_272 := bn_ BK267 hg; have NB272_267 := bm_ BK267 hg; replace BK257 := bb_ BK257 hb; replace BK262 := bb_ BK262 hb; replace BK267 := bb_ BK267 hb; replace HB := bs_ HB hb; clear hb hbox hg; have hnb29 := NB272_257.out; have hnc29 := NB257_272.out; have hnb30 := NB272_262.out; have hnc30 := NB262_272.out; have hnb31 := NB272_267.out; have hnc31 := NB267_272.out; obtain ⟨hcz32_0, hcz32_1, hcz32_2, hfz32_0, hfz32_1, hfz32_2⟩ := c3_ BK272; obtain ⟨hcz33_0, hcz33_1, hcz33_2, hfz33_0, hfz33_1, hfz33_2⟩ := c3_ BK257; obtain ⟨hcz34_0, hcz34_1, hcz34_2, hfz34_0, hfz34_1, hfz34_2⟩ := c3_ BK262; obtain ⟨hcz35_0, hcz35_1, hcz35_2, hfz35_0, hfz35_1, hfz35_2⟩ := c3_ BK267) | (go_at_call 3; (with_reducible refine (salvorlaw16_RegionRuns.calls k  t273 _ A14.out).mono ?_); rintro e w36 ⟨rfl, hb⟩; replace BK257 := Aside0.mk (blk_below (g := gb257) (o := .cells #[.int .i64 t253, .int .i64 t254, .int .u8 t255] 26 (0, 0)) (bp_ BK257) hb); replace BK262 := Aside0.mk (blk_below (g := gb262) (o := .cells #[.int .i64 t258, .int .i64 t259, .int .u8 t260] 26 (0, 0)) (bp_ BK262) hb); replace BK267 := Aside0.mk (blk_below (g := gb267) (o := .cells #[.int .i64 t263, .int .i64 t264, .int .u8 t265] 26 (0, 0)) (bp_ BK267) hb); replace BK272 := Aside0.mk (blk_below (g := gb272) (o := .cells #[.int .i64 t268, .int .i64 t269, .int .u8 t270] 26 (0, 0)) (bp_ BK272) hb); replace HB := bs_ HB hb; (try clear hb)))
      go_ret
      exact ⟨by first | rfl | (simp [errW_none, errW_some] <;> rfl) | (simp [*, errW_none, errW_some] <;> rfl), bh_ HB⟩
     ·rw [if_neg c13] at H
      have c13b0 : (t266 == t271) = false := by simpa using c13
      (try (have c13b1 : decide (t266 = t271) = false := by simpa using c13))
      (try (have c13b2 : (t266 == t271) = false := by simpa using c13))
      (try (have c13b3 : ¬ (t266 = t271) := by simpa using c13))
      clear c13
      exact absurd ((Option.some.inj H).trans HT.out) (by simp)
    ·rw [if_neg c12] at H
     have c12b0 : (t263 == t268 && (t264 == t269 && (t265 == t270))) = false := by simpa using c12
     (try (have c12b1 : decide (t263 = t268 && (t264 == t269 && (t265 == t270))) = false := by simpa using c12))
     (try (have c12b2 : (t263 == t268 && (t264 == t269 && (t265 == t270))) = false := by simpa using c12))
     (try (have c12b3 : ¬ (t263 = t268 && (t264 == t269 && (t265 == t270))) := by simpa using c12))
     clear c12
     exact absurd ((Option.some.inj H).trans HT.out) (by simp)
   ·rw [if_neg c11] at H
    have c11b0 : (t256 == t261) = false := by simpa using c11
    (try (have c11b1 : decide (t256 = t261) = false := by simpa using c11))
    (try (have c11b2 : (t256 == t261) = false := by simpa using c11))
    (try (have c11b3 : ¬ (t256 = t261) := by simpa using c11))
    clear c11
    exact absurd ((Option.some.inj H).trans HT.out) (by simp)
  ·rw [if_neg c10] at H
   have c10b0 : (t253 == t258 && (t254 == t259 && (t255 == t260))) = false := by simpa using c10
   (try (have c10b1 : decide (t253 = t258 && (t254 == t259 && (t255 == t260))) = false := by simpa using c10))
   (try (have c10b2 : (t253 == t258 && (t254 == t259 && (t255 == t260))) = false := by simpa using c10))
   (try (have c10b3 : ¬ (t253 = t258 && (t254 == t259 && (t255 == t260))) := by simpa using c10))
   clear c10
   exact absurd ((Option.some.inj H).trans HT.out) (by simp)
 ·replace c5 := Bool.eq_false_iff.mpr c5
  subst c5
  have H1 : ((salvorlaw16_RegionRuns.f k).bind fun t252 => (some t252)) = some r := by rw [if_neg (show ¬ (false = true) by decide)] at H; exact H
  clear H
  have H := H1
  clear H1
  replace H := Option.bind_eq_some_iff.mp H
  obtain ⟨t252, A370, H⟩ := H
  replace H : (some t252) = some r := H
  have A37 := Aside0.mk A370
  clear A370
  obtain rfl := Option.some.inj H
  go_enter Try.func5, Try.ntmps5
  go_wp2_with (first | ((with_reducible refine gate_callee (f := 17) rfl ?_); refine gl_ (some 16) rfl rfl Try.func17 (by kernel_rfl) rfl #[.slice A0 l0.length c0] rfl ?_; (with_reducible refine (salvorlaw16_Few.calls _ _ l0 false _ ?side1 ?side2 A4.out).mono ?_); (case side1 => repeat (first | exact HR0.out | (with_reducible refine Kd.C_alloc ?_ _) | (with_reducible refine Kd.C_drewN ?_ _) | (with_reducible refine Kd.C_drew ?_))); (case side2 => exact HC0.out); rintro e w' ⟨rfl, ⟨nd, rfl⟩⟩; refine ⟨_, rfl, ?_⟩) | ((with_reducible refine gate_callee (f := 3) rfl ?_); refine gl_ (some 18) rfl rfl Try.func3 (by kernel_rfl) rfl #[] rfl ?_; (with_reducible refine (salvorlaw16_RegionRuns.calls k  t252 _ A37.out).mono ?_); rintro e w38 ⟨rfl, hb⟩; refine ⟨_, rfl, ?_⟩; replace HB := bs_ HB hb; (try clear hb)))
  go_ret
  exact ⟨by first | rfl | (simp [errW_none, errW_some] <;> rfl) | (simp [*, errW_none, errW_some] <;> rfl), bh_ HB⟩

/-! ### salvorlaw16_Cut_of: function 24 -/
def salvorlaw16_Cut_of.f (a0_0 : Int) (a0_1 : Int) (a0_2 : Int) : Option (Int) := (some (([63, 42, 47, 45, 43] : List Int) : List Int)).bind fun y275 => (if 0 ≤ (Int.tmod a0_2 5) then (if (Int.tmod a0_2 5) < (y275.length : Int) then (some (rd y275 (Int.tmod a0_2 5))) else (none)) else (none))
set_option maxHeartbeats 8000000 in
set_option maxRecDepth 100000 in
theorem salvorlaw16_Cut_of.calls (a0_0 : Int) (a0_1 : Int) (a0_2 : Int) (r : Int) (w : World) (h : salvorlaw16_Cut_of.f a0_0 a0_1 a0_2 = some r) :
  Calls Try.prog 24 #[.agg #[.int .u8 a0_0, .int .u8 a0_1, .int .u8 a0_2]] w fun e w' => e = .returned (.int .u8 r) ∧ Below w.heap.size w w' := by
 have hu40 := Try.underlying40
 have HB := Aside0.mk (Below.refl w.heap.size w)
 have H : ((some (([63, 42, 47, 45, 43] : List Int) : List Int)).bind fun y275 => (if 0 ≤ (Int.tmod a0_2 5) then (if (Int.tmod a0_2 5) < (y275.length : Int) then (some (rd y275 (Int.tmod a0_2 5))) else (none)) else (none))) = some r := h
 clear h
 obtain ⟨y275, hy275⟩ : ∃ y_ : List Int, y_ = (([63, 42, 47, 45, 43] : List Int)) := ⟨_, rfl⟩
 replace H : (if 0 ≤ (Int.tmod a0_2 5) then (if (Int.tmod a0_2 5) < (y275.length : Int) then (some (rd y275 (Int.tmod a0_2 5))) else (none)) else (none)) = some r := by first | (rw [hy275]; with_reducible exact H) | (have H2_ := (Option.bind_some _ _).symm.trans H; rw [hy275]; with_reducible exact H2_) | (have H2_ := (Option.bind_some _ _).symm.trans H; with_reducible exact H2_) | with_reducible exact H | (rw [hy275]; exact H) | exact H
 have Ny275 := Aside0.mk hy275
 clear hy275
 obtain ⟨ji2, hji2⟩ : ∃ j_ : Int, (Int.tmod a0_2 5) = j_ := ⟨_, rfl⟩
 replace H : (if 0 ≤ (ji2) then (if (ji2) < (y275.length : Int) then (some (rd y275 (ji2))) else (none)) else (none)) = some r := by first | (rw [hji2] at H; exact H) | (simp only [hji2] at H ⊢; exact H)
 by_cases c3 : 0 ≤ (ji2)
 ·rw [if_pos c3] at H
  have c3b0 : decide (0 ≤ (ji2)) = true := decide_eq_true c3
  clear c3
  by_cases c4 : (ji2) < (y275.length : Int)
  ·rw [if_pos c4] at H
   have c4b0 : decide ((ji2) < (y275.length : Int)) = true := decide_eq_true c4
   clear c4
   obtain rfl := Option.some.inj H
   go_enter Try.func24, Try.ntmps24
   go_wp2_with (first | ((with_reducible refine gate_dst (N := 1) rfl ?_); refine box_e 1 #[.int .u8 a0_0, .int .u8 a0_1, .int .u8 a0_2] 40 ?_; intro gb274 hg w5 hbox hb; have BK274 := Aside0.mk hbox; have GW274 := bg_ HB hg; have GE274 := bg_ HB hg; replace HB := bs_ HB hb; clear hb hbox hg) | ((with_reducible refine gate_dst (N := 3) rfl ?_); refine Kd.R_lit (Kd.int .u8) _ 5 ?hg (N := 3) ?hd (xs := ([63, 42, 47, 45, 43] : List Int)) (inner := [.int .u8 63, .int .u8 42, .int .u8 47, .int .u8 45, .int .u8 43]) (ok := fun _ => True) (okp := fun _ => True) ?hr ?hp (fun _ hk => hk) trivial (Below.refl _ _) (Nat.le_refl _) (by simp) ?_; (case hd => rfl); (case hg => rfl); (case hr => first | (go_simp; done) | (go_simp; rfl)); (case hp => exact (Reps.one (show Kd.M (Kd.int .u8) _ _ _ 63 [.int .u8 63] from rfl) (Reps.one (show Kd.M (Kd.int .u8) _ _ _ 42 [.int .u8 42] from rfl) (Reps.one (show Kd.M (Kd.int .u8) _ _ _ 47 [.int .u8 47] from rfl) (Reps.one (show Kd.M (Kd.int .u8) _ _ _ 45 [.int .u8 45] from rfl) (Reps.one (show Kd.M (Kd.int .u8) _ _ _ 43 [.int .u8 43] from rfl) (Reps.none _ _))))))); intro v276 w6 ho7 hb hg_ hnew_; clear hg_ hnew_; (first | rw [← Ny275.out] at ho7 | (simp only [Int.reduceToNat] at ho7; rw [← Ny275.out] at ho7)); have HO277 := Aside0.mk (Kd.R_lower ho7 (below_size (bh_ HB))); replace BK274 := bb_ BK274 hb; replace HB := bs_ HB hb; clear hb ho7; obtain ⟨hcz8_0, hcz8_1, hcz8_2, hfz8_0, hfz8_1, hfz8_2⟩ := c3_ BK274; obtain ⟨Ao9, co9, eo9⟩ := Kd.R_slice HO277.out; subst eo9; have p278 : 0 ≤ ((ji2) : Int) := of_decide_eq_true (by first | (with_reducible assumption) | assumption); have q278 : (ji2) < (y275.length : Int) := of_decide_eq_true (by first | (with_reducible assumption) | assumption); obtain ⟨ad278, e278, hx278_0⟩ := Kd.at_int (Kd.R_reads' HO277.out).2.2 (ji2) p278 q278; cases e278; replace p278 := eq_true p278; replace q278 := eq_true q278))
   go_ret
   exact ⟨by first | rfl | (simp [errW_none, errW_some] <;> rfl) | (simp only [← hji2]; first | rfl | (simp [errW_none, errW_some] <;> rfl)) | (simp [*, errW_none, errW_some] <;> rfl), bh_ HB⟩
  ·rw [if_neg c4] at H
   exact absurd H (by simp)
 ·rw [if_neg c3] at H
  exact absurd H (by simp)

end Go.Proofs.Ytjgkfnbfjamccaa.P
