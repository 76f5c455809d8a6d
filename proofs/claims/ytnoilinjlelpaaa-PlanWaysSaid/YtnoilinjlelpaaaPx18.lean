/- Laid by a program of this session's own (wip/wprint.py, over the kit's print.py): functions of the given program as plain Lean functions, and that the program's calls come to their answers. -/
import Derived.Test.YtnoilinjlelpaaaPx0
import Derived.Test.YtnoilinjlelpaaaPx3
import Derived.Test.YtnoilinjlelpaaaPx6
import Derived.Test.YtnoilinjlelpaaaPx11
import Derived.Test.YtnoilinjlelpaaaPx14
import Derived.Test.YtnoilinjlelpaaaPx17
namespace Go.Proofs.Ytnoilinjlelpaaa.P
open Go.RowKit Go.Proofs.YtnoilinjlelpaaaW.PrintWords Go.Proofs.YtnoilinjlelpaaaW.PrintLast Go.Proofs.YtnoilinjlelpaaaW.PrintMore
attribute [local go_sem] max2_int min2_int max_two min_two max_three min_three max_four min_four   -- for this text's walks alone
set_option linter.unusedVariables false
set_option linter.unusedSimpArgs false

/-! ### plan_After: function 13 -/
mutual
def plan_After.j0 : Nat → Int → Bool → Int → Int → Bool → Int → Int → Int → List (S33) → Option (Int × Int × Int × (List (S33)))
 | 0, _, _, _, _, _, _, _, _, _ => none
 | k + 1, x2, x18, x262000, x262001, x262002, x263000, x263001, x263002, x263003 => if x18 = true then (some (x263000, x263001, x263002, x263003)) else ((plan_next.f k x262000 x262001 x262002 x263000 x263001 x263002 x263003).bind fun bt272 => (if bt272.1 = 0 then (plan_After.j1 k bt272.2.2.2 x262000 x262001 x262002 x263000 x263001 x263002 x263003 bt272.1 bt272.2.1 bt272.2.2.1) else ((plan_done.f k x263003 bt272.1 bt272.2.1 bt272.2.2.1 (mn (mx x2 0) bt272.2.2.1)).bind fun t277 => (plan_After.j1 k bt272.2.2.2 x262000 x262001 x262002 x263000 x263001 x263002 t277 bt272.1 bt272.2.1 bt272.2.2.1))))
def plan_After.j1 : Nat → Bool → Int → Int → Bool → Int → Int → Int → List (S33) → Int → Int → Int → Option (Int × Int × Int × (List (S33)))
 | 0, _, _, _, _, _, _, _, _, _, _, _ => none
 | k + 1, x8, x262000, x262001, x262002, x263000, x263001, x263002, x263003, x277000, x277001, x277002 => if x277000 = 4 then (if x262002 = true then (if x8 = true then ((plan_status.f k x262000 x262001 x262002 x277001 (wrap64 (x263001 + 1)) x263002 x263003).bind fun t280 => (some (x277001, wrap64 (x263001 + 1), t280, x263003))) else ((plan_status.f k x262000 x262001 x262002 x277001 x263001 x263002 x263003).bind fun t281 => (some (x277001, x263001, t281, x263003)))) else (if x8 = true then ((plan_status.f k x262000 x262001 x262002 (wrap64 (x277001 + x277002)) (wrap64 (x263001 + 1)) x263002 x263003).bind fun t282 => (some (wrap64 (x277001 + x277002), wrap64 (x263001 + 1), t282, x263003))) else ((plan_status.f k x262000 x262001 x262002 (wrap64 (x277001 + x277002)) x263001 x263002 x263003).bind fun t283 => (some (wrap64 (x277001 + x277002), x263001, t283, x263003))))) else (if x8 = true then ((plan_status.f k x262000 x262001 x262002 x263000 (wrap64 (x263001 + 1)) x263002 x263003).bind fun t284 => (some (x263000, wrap64 (x263001 + 1), t284, x263003))) else ((plan_status.f k x262000 x262001 x262002 x263000 x263001 x263002 x263003).bind fun t285 => (some (x263000, x263001, t285, x263003))))
end
def plan_After.f (k : Nat) (a0_0 : Int) (a0_1 : Int) (a0_2 : Bool) (a1_0 : Int) (a1_1 : Int) (a1_2 : Int) (l1_3 : List (S33)) (a2 : Int) : Option (Int × Int × Int × (List (S33))) := (plan_copied.f a1_0 a1_1 a1_2 l1_3).bind fun bt264 => ((plan_May.f a0_0 a0_1 a0_2).bind fun t270 => (if t270 = true then ((maptext_May.f k bt264.1 bt264.2.1 bt264.2.2.1 bt264.2.2.2).bind fun t271 => (plan_After.j0 k a2 (!t271) a0_0 a0_1 a0_2 bt264.1 bt264.2.1 bt264.2.2.1 bt264.2.2.2)) else (plan_After.j0 k a2 true a0_0 a0_1 a0_2 bt264.1 bt264.2.1 bt264.2.2.1 bt264.2.2.2)))
theorem plan_After.mono_l : ∀ k, (∀ y0 y1 y2 y3 y4 y5 y6 y7 y8, LeO (plan_After.j0 k y0 y1 y2 y3 y4 y5 y6 y7 y8) (plan_After.j0 (k + 1) y0 y1 y2 y3 y4 y5 y6 y7 y8)) ∧ (∀ y0 y1 y2 y3 y4 y5 y6 y7 y8 y9 y10, LeO (plan_After.j1 k y0 y1 y2 y3 y4 y5 y6 y7 y8 y9 y10) (plan_After.j1 (k + 1) y0 y1 y2 y3 y4 y5 y6 y7 y8 y9 y10))
 | 0 => ⟨fun _ _ _ _ _ _ _ _ _ r h => by simp [plan_After.j0] at h, fun _ _ _ _ _ _ _ _ _ _ _ r h => by simp [plan_After.j1] at h⟩
 | k + 1 => by
  obtain ⟨ih0, ih1⟩ := plan_After.mono_l k
  refine ⟨?_, ?_⟩
  ·intro y0 y1 y2 y3 y4 y5 y6 y7 y8
   unfold plan_After.j0
   repeat' first
   | (with_reducible exact ih0 _ _ _ _ _ _ _ _ _)
   | (with_reducible exact ih1 _ _ _ _ _ _ _ _ _ _ _)
   | (with_reducible exact maptext_May.mono _ _ _ _ _)
   | (with_reducible exact plan_done.mono _ _ _ _ _ _)
   | (with_reducible exact plan_next.mono _ _ _ _ _ _ _ _)
   | (with_reducible exact plan_status.mono _ _ _ _ _ _ _ _)
   | (with_reducible exact LeO.refl _)
   | (with_reducible exact LeO.none _)
   | (with_reducible refine LeO.ite ?_ ?_)
   | (with_reducible refine LeO.bind ?_ (fun _ => ?_))
   | exact ih0 _ _ _ _ _ _ _ _ _
   | exact ih1 _ _ _ _ _ _ _ _ _ _ _
   | exact maptext_May.mono _ _ _ _ _
   | exact plan_done.mono _ _ _ _ _ _
   | exact plan_next.mono _ _ _ _ _ _ _ _
   | exact plan_status.mono _ _ _ _ _ _ _ _
   | exact LeO.none _
   | refine LeO.ite ?_ ?_
   | refine LeO.bind ?_ (fun _ => ?_)
  ·intro y0 y1 y2 y3 y4 y5 y6 y7 y8 y9 y10
   unfold plan_After.j1
   repeat' first
   | (with_reducible exact ih0 _ _ _ _ _ _ _ _ _)
   | (with_reducible exact ih1 _ _ _ _ _ _ _ _ _ _ _)
   | (with_reducible exact maptext_May.mono _ _ _ _ _)
   | (with_reducible exact plan_done.mono _ _ _ _ _ _)
   | (with_reducible exact plan_next.mono _ _ _ _ _ _ _ _)
   | (with_reducible exact plan_status.mono _ _ _ _ _ _ _ _)
   | (with_reducible exact LeO.refl _)
   | (with_reducible exact LeO.none _)
   | (with_reducible refine LeO.ite ?_ ?_)
   | (with_reducible refine LeO.bind ?_ (fun _ => ?_))
   | exact ih0 _ _ _ _ _ _ _ _ _
   | exact ih1 _ _ _ _ _ _ _ _ _ _ _
   | exact maptext_May.mono _ _ _ _ _
   | exact plan_done.mono _ _ _ _ _ _
   | exact plan_next.mono _ _ _ _ _ _ _ _
   | exact plan_status.mono _ _ _ _ _ _ _ _
   | exact LeO.none _
   | refine LeO.ite ?_ ?_
   | refine LeO.bind ?_ (fun _ => ?_)
theorem plan_After.mono : ∀ a0 a1 a2 a3 a4 a5 a6 a7 k, LeO (plan_After.f k a0 a1 a2 a3 a4 a5 a6 a7) (plan_After.f (k + 1) a0 a1 a2 a3 a4 a5 a6 a7) := by
 intro a0 a1 a2 a3 a4 a5 a6 a7 k
 obtain ⟨ih0, ih1⟩ := plan_After.mono_l k
 unfold plan_After.f
 repeat' first
   | (with_reducible exact ih0 _ _ _ _ _ _ _ _ _)
   | (with_reducible exact ih1 _ _ _ _ _ _ _ _ _ _ _)
   | (with_reducible exact maptext_May.mono _ _ _ _ _)
   | (with_reducible exact plan_done.mono _ _ _ _ _ _)
   | (with_reducible exact plan_next.mono _ _ _ _ _ _ _ _)
   | (with_reducible exact plan_status.mono _ _ _ _ _ _ _ _)
   | (with_reducible exact LeO.refl _)
   | (with_reducible exact LeO.none _)
   | (with_reducible refine LeO.ite ?_ ?_)
   | (with_reducible refine LeO.bind ?_ (fun _ => ?_))
   | exact ih0 _ _ _ _ _ _ _ _ _
   | exact ih1 _ _ _ _ _ _ _ _ _ _ _
   | exact maptext_May.mono _ _ _ _ _
   | exact plan_done.mono _ _ _ _ _ _
   | exact plan_next.mono _ _ _ _ _ _ _ _
   | exact plan_status.mono _ _ _ _ _ _ _ _
   | exact LeO.none _
   | refine LeO.ite ?_ ?_
   | refine LeO.bind ?_ (fun _ => ?_)
set_option maxHeartbeats 8000000 in
set_option maxRecDepth 100000 in
theorem plan_After.calls (k : Nat) (a0_0 : Int) (a0_1 : Int) (a0_2 : Bool) (a1_0 : Int) (a1_1 : Int) (a1_2 : Int) (A1_3 : Option Addr) (c1_3 : Nat) (l1_3 : List (S33)) (a2 : Int) (r1 : Int) (r2 : Int) (r3 : Int) (r4 : List (S33)) (w : World) (hr1_3 : Kd.C k33 w A1_3 l1_3.length l1_3) (hc1_3 : l1_3.length ≤ c1_3) (h : plan_After.f k a0_0 a0_1 a0_2 a1_0 a1_1 a1_2 l1_3 a2 = some (r1, r2, r3, r4)) :
  Calls Try.prog 13 #[.agg #[.int .i64 a0_0, .int .i64 a0_1, .bool a0_2], .agg #[.int .i64 a1_0, .int .i64 a1_1, .int .u8 a1_2, .slice A1_3 l1_3.length c1_3], .int .i64 a2] w fun e w' => ∃ v3_ : Value, e = .returned (.agg #[.int .i64 r1, .int .i64 r2, .int .u8 r3, v3_]) ∧ Kd.R k33 33 w' w.heap.size (fun _ => True) v3_ r4 ∧ Below w.heap.size w w' := by
 have hu23 := Try.underlying23
 have hu26 := Try.underlying26
 have hu29 := Try.underlying29
 have HR1_3 := Aside0.mk hr1_3
 have HC1_3 := Aside0.mk hc1_3
 clear hr1_3 hc1_3
 have HB := Aside0.mk (Below.refl w.heap.size w)
 have H : ((plan_copied.f a1_0 a1_1 a1_2 l1_3).bind fun bt264 => ((plan_May.f a0_0 a0_1 a0_2).bind fun t270 => (if t270 = true then ((maptext_May.f k bt264.1 bt264.2.1 bt264.2.2.1 bt264.2.2.2).bind fun t271 => (plan_After.j0 k a2 (!t271) a0_0 a0_1 a0_2 bt264.1 bt264.2.1 bt264.2.2.1 bt264.2.2.2)) else (plan_After.j0 k a2 true a0_0 a0_1 a0_2 bt264.1 bt264.2.1 bt264.2.2.1 bt264.2.2.2)))) = some (r1, r2, r3, r4) := h
 clear h
 replace H := Option.bind_eq_some_iff.mp H
 obtain ⟨⟨t264, t265, t266, t267⟩, A40, H⟩ := H
 replace H : ((plan_May.f a0_0 a0_1 a0_2).bind fun t270 => (if t270 = true then ((maptext_May.f k t264 t265 t266 t267).bind fun t271 => (plan_After.j0 k a2 (!t271) a0_0 a0_1 a0_2 t264 t265 t266 t267)) else (plan_After.j0 k a2 true a0_0 a0_1 a0_2 t264 t265 t266 t267))) = some (r1, r2, r3, r4) := H
 have A4 := Aside0.mk A40
 clear A40
 have HC5 := Aside0.mk H
 clear H
 go_enter Try.func13, Try.ntmps13
 go_upto_region 2 with (first | ((with_reducible refine gate_dst (N := 3) rfl ?_); refine box_e 3 #[.int .i64 a0_0, .int .i64 a0_1, .bool a0_2] 23 ?_; intro gb261 hg w6 hbox hb; have BK261 := Aside0.mk hbox; have GW261 := bg_ HB hg; have GE261 := bg_ HB hg; replace HB := bs_ HB hb; clear hb hbox hg) | ((with_reducible refine gate_dst (N := 4) rfl ?_); refine box_e 4 #[.int .i64 a1_0, .int .i64 a1_1, .int .u8 a1_2, .slice A1_3 l1_3.length c1_3] 26 ?_; intro gb262 hg w7 hbox hb; have BK262 := Aside0.mk hbox; have GW262 := bg_ HB hg; have GE262 := bg_ HB hg; have NB261_262 := bn_ BK261 hg; have NB262_261 := bm_ BK261 hg; replace BK261 := bb_ BK261 hb; replace HB := bs_ HB hb; clear hb hbox hg) | ((with_reducible refine gate_dst (N := 6) rfl ?_); refine box_e 6 #[.int .i64 0, .int .i64 0, .int .u8 0, .slice none 0 0] 26 ?_; intro gb263 hg w8 hbox hb; have BK263 := Aside0.mk hbox; have GW263 := bg_ HB hg; have GE263 := bg_ HB hg; have NB261_263 := bn_ BK261 hg; have NB263_261 := bm_ BK261 hg; have NB262_263 := bn_ BK262 hg; have NB263_262 := bm_ BK262 hg; replace BK261 := bb_ BK261 hb; replace BK262 := bb_ BK262 hb; replace HB := bs_ HB hb; clear hb hbox hg; have hnb9 := NB262_261.out; have hnc9 := NB261_262.out; have hnb10 := NB262_263.out; have hnc10 := NB263_262.out; obtain ⟨hcz11_0, hcz11_1, hcz11_2, hcz11_3, hfz11_0, hfz11_1, hfz11_2, hfz11_3⟩ := c4_ BK262) | ((with_reducible refine gate_callee (f := 36) rfl ?_); refine gl_ (some 10) rfl rfl Try.func36 (by kernel_rfl) rfl #[.agg #[.int .i64 a1_0, .int .i64 a1_1, .int .u8 a1_2, .slice A1_3 l1_3.length c1_3]] rfl ?_; (with_reducible refine (plan_copied.calls a1_0 a1_1 a1_2 _ _ l1_3 t264 t265 t266 t267 _ ?side1 ?side2 A4.out).mono ?_); (case side1 => exact cb_ HR1_3 HB); (case side2 => exact HC1_3.out); rintro e w12 ⟨v268, rfl, ho0, hb⟩; refine ⟨_, rfl, ?_⟩; have HO269 := Aside0.mk (Kd.R_lower ho0 (below_size (bh_ HB))); replace BK261 := bb_ BK261 hb; replace BK262 := bb_ BK262 hb; replace BK263 := bb_ BK263 hb; replace HB := bs_ HB hb; (try clear hb); (try clear hb2); (try clear hk); (try clear hi); (try clear ho0); obtain ⟨hcz13_0, hcz13_1, hcz13_2, hcz13_3, hfz13_0, hfz13_1, hfz13_2, hfz13_3⟩ := c4_ BK262; obtain ⟨Ao14, co14, eo14⟩ := Kd.R_slice HO269.out; subst eo14))
 (try simp only [Act.put, List.setIfInBounds_toArray, List.set_cons_zero, List.set_cons_succ])
 go_cut [18] (fun v18 wc => ∃ (kq : Nat) (x18_4 : Bool), v18 = .bool x18_4 ∧ Aside0 (plan_After.j0 kq a2 x18_4 a0_0 a0_1 a0_2 t264 t265 t266 t267 = some (r1, r2, r3, r4)) ∧ Aside0 (kq ≤ k) ∧ Aside0 (Kd.R k33 33 wc w.heap.size (fun _ => True) (.slice Ao14 t267.length co14) t267) ∧ Aside0 (wc.heap[gb261]? = some (.cells #[.int .i64 a0_0, .int .i64 a0_1, .bool a0_2] 23 (0, 0))) ∧ Aside0 (wc.heap[gb262]? = some (.cells #[.int .i64 t264, .int .i64 t265, .int .u8 t266, (.slice Ao14 t267.length co14)] 26 (0, 0))) ∧ Aside0 (wc.heap[gb263]? = some (.cells #[.int .i64 0, .int .i64 0, .int .u8 0, (.slice none 0 0)] 26 (0, 0))) ∧ Aside0 (Below w.heap.size w wc))
 case first =>
  have H := HC5.out
  clear HC5
  replace H := Option.bind_eq_some_iff.mp H
  obtain ⟨t270, A150, H⟩ := H
  replace H : (if t270 = true then ((maptext_May.f k t264 t265 t266 t267).bind fun t271 => (plan_After.j0 k a2 (!t271) a0_0 a0_1 a0_2 t264 t265 t266 t267)) else (plan_After.j0 k a2 true a0_0 a0_1 a0_2 t264 t265 t266 t267)) = some (r1, r2, r3, r4) := H
  have A15 := Aside0.mk A150
  clear A150
  by_cases c16 : t270 = true
  ·subst c16
   have H1 : ((maptext_May.f k t264 t265 t266 t267).bind fun t271 => (plan_After.j0 k a2 (!t271) a0_0 a0_1 a0_2 t264 t265 t266 t267)) = some (r1, r2, r3, r4) := by rw [if_pos rfl] at H; exact H
   clear H
   have H := H1
   clear H1
   replace H := Option.bind_eq_some_iff.mp H
   obtain ⟨t271, A170, H⟩ := H
   replace H : (plan_After.j0 k a2 (!t271) a0_0 a0_1 a0_2 t264 t265 t266 t267) = some (r1, r2, r3, r4) := H
   have A17 := Aside0.mk A170
   clear A170
   have H' := Aside0.mk H
   clear H
   have hnb18 := NB261_262.out
   have hnc18 := NB262_261.out
   have hnb19 := NB261_263.out
   have hnc19 := NB263_261.out
   obtain ⟨hcz20_0, hcz20_1, hcz20_2, hfz20_0, hfz20_1, hfz20_2⟩ := c3_ BK261
   go_wp2_with (first | ((with_reducible refine gate_callee (f := 14) rfl ?_); refine gl_ (some 12) rfl rfl Try.func14 (by kernel_rfl) rfl #[.agg #[.int .i64 a0_0, .int .i64 a0_1, .bool a0_2]] rfl ?_; (with_reducible refine (plan_May.calls a0_0 a0_1 a0_2 true _ A15.out).mono ?_); rintro e w21 ⟨rfl, hb⟩; refine ⟨_, rfl, ?_⟩; have n0_ := Aside0.mk (Kd.R_below (by (with_reducible repeat (first | apply Kd.R_alloc | apply Kd.R_drewN | apply Kd.R_drew)); exact (Kd.R_mono (Kd.R_far (p := ⟨gb262, 3, none⟩) (Kd.R_far (p := ⟨gb262, 2, none⟩) (Kd.R_far (p := ⟨gb262, 1, none⟩) (Kd.R_far (p := ⟨gb262, 0, none⟩) (Kd.R_types HO269.out BK262.out (by decide)) (fun _ hk => hk.2) (.int .i64 t264)) (fun _ hk => hk.2) (.int .i64 t265)) (fun _ hk => hk.2) (.int .u8 t266)) (fun _ hk => hk.2) (.slice Ao14 t267.length co14)) (fun _ h_ => h_.1))) hb); have n1_ := Aside0.mk (blk_below (g := gb261) (o := .cells #[.int .i64 a0_0, .int .i64 a0_1, .bool a0_2] 23 (0, 0)) (bp_ BK261) hb); have n2_ := Aside0.mk (blk_below (g := gb262) (o := .cells #[.int .i64 t264, .int .i64 t265, .int .u8 t266, .slice Ao14 t267.length co14] 26 (0, 0)) (bp_ BK262) hb); have n3_ := Aside0.mk (blk_below (g := gb263) (o := .cells #[.int .i64 0, .int .i64 0, .int .u8 0, .slice none 0 0] 26 (0, 0)) (bp_ BK263) hb); have n4_ := bs_ HB hb; clear HO269; clear BK261; clear BK262; clear BK263; clear HB; have HO269 := n0_; have BK261 := n1_; have BK262 := n2_; have BK263 := n3_; have HB := n4_; clear n0_ n1_ n2_ n3_ n4_; (try clear hb); have hnb22 := NB262_263.out; have hnc22 := NB263_262.out; obtain ⟨hcz23_0, hcz23_1, hcz23_2, hcz23_3, hfz23_0, hfz23_1, hfz23_2, hfz23_3⟩ := c4_ BK262) | (go_at_call 18; (with_reducible refine (maptext_May.calls k t264 t265 t266 _ _ t267 t271 _ ?side1 ?side2 A17.out).mono ?_); (case side1 => repeat (first | exact (Kd.R_reads' HO269.out).2.2 | (with_reducible refine Kd.C_alloc ?_ _) | (with_reducible refine Kd.C_drewN ?_ _) | (with_reducible refine Kd.C_drew ?_))); (case side2 => exact (Kd.R_reads' HO269.out).2.1); rintro e w24 ⟨rfl, hb⟩; have n0_ := Aside0.mk (Kd.R_below (by (with_reducible repeat (first | apply Kd.R_alloc | apply Kd.R_drewN | apply Kd.R_drew)); exact HO269.out) hb); have n1_ := bb_ BK261 hb; have n2_ := bb_ BK262 hb; have n3_ := bb_ BK263 hb; have n4_ := bs_ HB hb; clear HO269; clear BK261; clear BK262; clear BK263; clear HB; have HO269 := n0_; have BK261 := n1_; have BK262 := n2_; have BK263 := n3_; have HB := n4_; clear n0_ n1_ n2_ n3_ n4_; (try clear hb)))
   go_meet
   case rel => exact ⟨_, (!t271), (by first | rfl | (simp; done) | (simp [*]; done)), H', ⟨by first | omega | exact Nat.le_refl _⟩, ⟨by (with_reducible repeat (first | apply Kd.R_alloc | apply Kd.R_drewN | apply Kd.R_drew)); exact HO269.out⟩, ⟨bq_ BK261⟩, ⟨bq_ BK262⟩, ⟨bq_ BK263⟩, ⟨bh_ HB⟩⟩
  ·replace c16 := Bool.eq_false_iff.mpr c16
   subst c16
   have H1 : (plan_After.j0 k a2 true a0_0 a0_1 a0_2 t264 t265 t266 t267) = some (r1, r2, r3, r4) := by rw [if_neg (show ¬ (false = true) by decide)] at H; exact H
   clear H
   have H := H1
   clear H1
   have H' := Aside0.mk H
   clear H
   have hnb25 := NB261_262.out
   have hnc25 := NB262_261.out
   have hnb26 := NB261_263.out
   have hnc26 := NB263_261.out
   obtain ⟨hcz27_0, hcz27_1, hcz27_2, hfz27_0, hfz27_1, hfz27_2⟩ := c3_ BK261
   go_wp2_with (first | ((with_reducible refine gate_callee (f := 14) rfl ?_); refine gl_ (some 12) rfl rfl Try.func14 (by kernel_rfl) rfl #[.agg #[.int .i64 a0_0, .int .i64 a0_1, .bool a0_2]] rfl ?_; (with_reducible refine (plan_May.calls a0_0 a0_1 a0_2 false _ A15.out).mono ?_); rintro e w28 ⟨rfl, hb⟩; refine ⟨_, rfl, ?_⟩; have n0_ := Aside0.mk (Kd.R_below (by (with_reducible repeat (first | apply Kd.R_alloc | apply Kd.R_drewN | apply Kd.R_drew)); exact (Kd.R_mono (Kd.R_far (p := ⟨gb262, 3, none⟩) (Kd.R_far (p := ⟨gb262, 2, none⟩) (Kd.R_far (p := ⟨gb262, 1, none⟩) (Kd.R_far (p := ⟨gb262, 0, none⟩) (Kd.R_types HO269.out BK262.out (by decide)) (fun _ hk => hk.2) (.int .i64 t264)) (fun _ hk => hk.2) (.int .i64 t265)) (fun _ hk => hk.2) (.int .u8 t266)) (fun _ hk => hk.2) (.slice Ao14 t267.length co14)) (fun _ h_ => h_.1))) hb); have n1_ := Aside0.mk (blk_below (g := gb261) (o := .cells #[.int .i64 a0_0, .int .i64 a0_1, .bool a0_2] 23 (0, 0)) (bp_ BK261) hb); have n2_ := Aside0.mk (blk_below (g := gb262) (o := .cells #[.int .i64 t264, .int .i64 t265, .int .u8 t266, .slice Ao14 t267.length co14] 26 (0, 0)) (bp_ BK262) hb); have n3_ := Aside0.mk (blk_below (g := gb263) (o := .cells #[.int .i64 0, .int .i64 0, .int .u8 0, .slice none 0 0] 26 (0, 0)) (bp_ BK263) hb); have n4_ := bs_ HB hb; clear HO269; clear BK261; clear BK262; clear BK263; clear HB; have HO269 := n0_; have BK261 := n1_; have BK262 := n2_; have BK263 := n3_; have HB := n4_; clear n0_ n1_ n2_ n3_ n4_; (try clear hb)))
   go_meet
   case rel => exact ⟨_, (true), (by first | rfl | (simp; done) | (simp [*]; done)), H', ⟨by first | omega | exact Nat.le_refl _⟩, ⟨by (with_reducible repeat (first | apply Kd.R_alloc | apply Kd.R_drewN | apply Kd.R_drew)); exact HO269.out⟩, ⟨bq_ BK261⟩, ⟨bq_ BK262⟩, ⟨bq_ BK263⟩, ⟨bh_ HB⟩⟩
 case rest =>
  clear HC5
  try clear c1
  try clear c2
  try clear p2
  try clear c3
  try clear c9
  try clear c10
  try clear c13
  try clear c14
  try clear c16
  try clear c18
  try clear c19
  try clear c22
  try clear c25
  try clear c26
  try clear hcz11_0 hcz11_1 hcz11_2 hcz11_3
  try clear hcz13_0 hcz13_1 hcz13_2 hcz13_3
  try clear hcz20_0 hcz20_1 hcz20_2
  try clear hcz23_0 hcz23_1 hcz23_2 hcz23_3
  try clear hcz27_0 hcz27_1 hcz27_2
  try clear hfz11_0 hfz11_1 hfz11_2 hfz11_3
  try clear hfz13_0 hfz13_1 hfz13_2 hfz13_3
  try clear hfz20_0 hfz20_1 hfz20_2
  try clear hfz23_0 hfz23_1 hfz23_2 hfz23_3
  try clear hfz27_0 hfz27_1 hfz27_2
  obtain ⟨kq, x18_4, rfl, HA, HJ4, HO_263003, BK261, BK262, BK263, HB⟩ := hcut
  cases kq with
  | zero => exact absurd HA.out (by simp [plan_After.j0])
  | succ kj4 =>
   have H := HA.out
   clear HA
   simp only [plan_After.j0] at H
   by_cases c29 : x18_4 = true
   ·subst c29
    have H1 : (some (t264, t265, t266, t267)) = some (r1, r2, r3, r4) := by rw [if_pos rfl] at H; exact H
    clear H
    have H := H1
    clear H1
    simp only [Option.some.injEq, Prod.mk.injEq] at H
    obtain ⟨rfl, rfl, rfl, rfl⟩ := H
    have hnb30 := NB262_261.out
    have hnc30 := NB261_262.out
    have hnb31 := NB262_263.out
    have hnc31 := NB263_262.out
    obtain ⟨hcz32_0, hcz32_1, hcz32_2, hcz32_3, hfz32_0, hfz32_1, hfz32_2, hfz32_3⟩ := c4_ BK262
    have hnb33 := NB263_261.out
    have hnc33 := NB261_263.out
    obtain ⟨hcz34_0, hcz34_1, hcz34_2, hcz34_3, hfz34_0, hfz34_1, hfz34_2, hfz34_3⟩ := c4_ BK263
    go_wp2
    refine bodyPost_ret (results_cell_row rfl _ _ gb263 26 #[.int .i64 t264, .int .i64 t265, .int .u8 t266, .slice Ao14 t267.length co14] (0, 0) _ rfl (bp_ BK263) Try.underlying26 rfl (by kernel_rfl)) rfl ?_
    exact ⟨_, by first | rfl | (simp [errW_none, errW_some] <;> rfl) | (simp [*, errW_none, errW_some] <;> rfl), by (with_reducible repeat (first | apply Kd.R_alloc | apply Kd.R_drewN | apply Kd.R_drew)); exact Kd.R_mono (Kd.R_far (p := ⟨gb263, 3, none⟩) (Kd.R_far (p := ⟨gb263, 2, none⟩) (Kd.R_far (p := ⟨gb263, 1, none⟩) (Kd.R_far (p := ⟨gb263, 0, none⟩) (Kd.R_types HO_263003.out BK263.out (by decide)) (fun _ hk => hk.2) (.int .i64 t264)) (fun _ hk => hk.2) (.int .i64 t265)) (fun _ hk => hk.2) (.int .u8 t266)) (fun _ hk => hk.2) (.slice Ao14 t267.length co14)) (fun _ hk => trivial), bh_ HB⟩
   ·replace c29 := Bool.eq_false_iff.mpr c29
    subst c29
    have H1 : ((plan_next.f kj4 a0_0 a0_1 a0_2 t264 t265 t266 t267).bind fun bt272 => (if bt272.1 = 0 then (plan_After.j1 kj4 bt272.2.2.2 a0_0 a0_1 a0_2 t264 t265 t266 t267 bt272.1 bt272.2.1 bt272.2.2.1) else ((plan_done.f kj4 t267 bt272.1 bt272.2.1 bt272.2.2.1 (mn (mx a2 0) bt272.2.2.1)).bind fun t277 => (plan_After.j1 kj4 bt272.2.2.2 a0_0 a0_1 a0_2 t264 t265 t266 t277 bt272.1 bt272.2.1 bt272.2.2.1)))) = some (r1, r2, r3, r4) := by rw [if_neg (show ¬ (false = true) by decide)] at H; exact H
    clear H
    have H := H1
    clear H1
    replace H := Option.bind_eq_some_iff.mp H
    obtain ⟨⟨t272, t273, t274, t275⟩, A350, H⟩ := H
    replace H : (if t272 = 0 then (plan_After.j1 kj4 t275 a0_0 a0_1 a0_2 t264 t265 t266 t267 t272 t273 t274) else ((plan_done.f kj4 t267 t272 t273 t274 (mn (mx a2 0) t274)).bind fun t277 => (plan_After.j1 kj4 t275 a0_0 a0_1 a0_2 t264 t265 t266 t277 t272 t273 t274))) = some (r1, r2, r3, r4) := H
    have A35 := Aside0.mk A350
    clear A350
    have HC36 := Aside0.mk H
    clear H
    have hnb37 := NB261_262.out
    have hnc37 := NB262_261.out
    have hnb38 := NB261_263.out
    have hnc38 := NB263_261.out
    obtain ⟨hcz39_0, hcz39_1, hcz39_2, hfz39_0, hfz39_1, hfz39_2⟩ := c3_ BK261
    have hnb40 := NB262_263.out
    have hnc40 := NB263_262.out
    obtain ⟨hcz41_0, hcz41_1, hcz41_2, hcz41_3, hfz41_0, hfz41_1, hfz41_2, hfz41_3⟩ := c4_ BK262
    go_upto_if 28 with (first | ((with_reducible refine gate_callee (f := 35) rfl ?_); refine gl_ (some 23) rfl rfl Try.func35 (by kernel_rfl) rfl #[.agg #[.int .i64 a0_0, .int .i64 a0_1, .bool a0_2], .agg #[.int .i64 t264, .int .i64 t265, .int .u8 t266, .slice Ao14 t267.length co14]] rfl ?_; (with_reducible refine (plan_next.calls kj4 a0_0 a0_1 a0_2 t264 t265 t266 _ _ t267 t272 t273 t274 t275 _ ?side1 ?side2 A35.out).mono ?_); (case side1 => repeat (first | exact (Kd.R_reads' HO_263003.out).2.2 | (with_reducible refine Kd.C_alloc ?_ _) | (with_reducible refine Kd.C_drewN ?_ _) | (with_reducible refine Kd.C_drew ?_))); (case side2 => exact (Kd.R_reads' HO_263003.out).2.1); rintro e w42 ⟨rfl, hb⟩; refine ⟨_, rfl, ?_⟩; have n0_ := Aside0.mk (Kd.R_below (by (with_reducible repeat (first | apply Kd.R_alloc | apply Kd.R_drewN | apply Kd.R_drew)); exact HO_263003.out) hb); have n1_ := bb_ BK261 hb; have n2_ := bb_ BK262 hb; have n3_ := bb_ BK263 hb; have n4_ := bs_ HB hb; clear HO_263003; clear BK261; clear BK262; clear BK263; clear HB; have HO_263003 := n0_; have BK261 := n1_; have BK262 := n2_; have BK263 := n3_; have HB := n4_; clear n0_ n1_ n2_ n3_ n4_; (try clear hb)) | ((with_reducible refine gate_dst (N := 7) rfl ?_); refine box_e 7 #[.int .i64 0, .int .i64 0, .int .i64 0] 29 ?_; intro gb276 hg w43 hbox hb; have n0_ := Aside0.mk (Kd.R_below (by (with_reducible repeat (first | apply Kd.R_alloc | apply Kd.R_drewN | apply Kd.R_drew)); exact HO_263003.out) hb); have n1_ := bb_ BK261 hb; have n2_ := bb_ BK262 hb; have n3_ := bb_ BK263 hb; have n4_ := bs_ HB hb; have n5_ := Aside0.mk hbox; have n6_ := bg_ HB hg; have n7_ := bg_ HB hg; have n8_ := bn_ BK261 hg; have n9_ := bm_ BK261 hg; have n10_ := bn_ BK262 hg; have n11_ := bm_ BK262 hg; have n12_ := bn_ BK263 hg; have n13_ := bm_ BK263 hg; clear HO_263003; clear BK261; clear BK262; clear BK263; clear HB; have HO_263003 := n0_; have BK261 := n1_; have BK262 := n2_; have BK263 := n3_; have HB := n4_; have BK276 := n5_; have GW276 := n6_; have GE276 := n7_; have NB261_276 := n8_; have NB276_261 := n9_; have NB262_276 := n10_; have NB276_262 := n11_; have NB263_276 := n12_; have NB276_263 := n13_; clear n0_ n1_ n2_ n3_ n4_ n5_ n6_ n7_ n8_ n9_ n10_ n11_ n12_ n13_; clear hb hbox hg; have hnb44 := NB276_261.out; have hnc44 := NB261_276.out; have hnb45 := NB276_262.out; have hnc45 := NB262_276.out; have hnb46 := NB276_263.out; have hnc46 := NB263_276.out; obtain ⟨hcz47_0, hcz47_1, hcz47_2, hfz47_0, hfz47_1, hfz47_2⟩ := c3_ BK276))
    (try simp only [Act.put, List.setIfInBounds_toArray, List.set_cons_zero, List.set_cons_succ])
    go_cut [] (fun wc => ∃ (kq : Nat) (x263003_35 : List (S33)) (u263003 : Value), Aside0 (plan_After.j1 kq t275 a0_0 a0_1 a0_2 t264 t265 t266 x263003_35 t272 t273 t274 = some (r1, r2, r3, r4)) ∧ Aside0 (kq ≤ kj4) ∧ Aside0 (Kd.R k33 33 wc w.heap.size (fun _ => True) u263003 x263003_35) ∧ Aside0 (wc.heap[gb261]? = some (.cells #[.int .i64 a0_0, .int .i64 a0_1, .bool a0_2] 23 (0, 0))) ∧ Aside0 (wc.heap[gb262]? = some (.cells #[.int .i64 t264, .int .i64 t265, .int .u8 t266, u263003] 26 (0, 0))) ∧ Aside0 (wc.heap[gb263]? = some (.cells #[.int .i64 0, .int .i64 0, .int .u8 0, (.slice none 0 0)] 26 (0, 0))) ∧ Aside0 (wc.heap[gb276]? = some (.cells #[.int .i64 t272, .int .i64 t273, .int .i64 t274] 29 (0, 0))) ∧ Aside0 (Below w.heap.size w wc))
    case first =>
     have H := HC36.out
     clear HC36
     by_cases c48 : t272 = 0
     ·rw [if_pos c48] at H
      have c48b0 : (t272 == 0) = true := beq_iff_eq.mpr c48
      have c48b1 : (t272 != 0) = false := bne_eq_false_iff_eq.mpr c48
      clear c48
      (first | rw [c48b0] | (simp only [i64_w, i32_w]; rw [c48b0]) | skip)
      have H' := Aside0.mk H
      clear H
      go_wp2
      go_meet
      case rel => exact ⟨_, (t267), (.slice Ao14 t267.length co14), H', ⟨by have := HJ4.out; first | omega | exact Nat.le_refl _⟩, ⟨by (with_reducible repeat (first | apply Kd.R_alloc | apply Kd.R_drewN | apply Kd.R_drew)); exact Kd.R_mono (Kd.R_far (p := ⟨gb276, 2, none⟩) (Kd.R_far (p := ⟨gb276, 1, none⟩) (Kd.R_far (p := ⟨gb276, 0, none⟩) (Kd.R_types HO_263003.out BK276.out (by decide)) (fun _ hk => hk.2) (.int .i64 t272)) (fun _ hk => hk.2) (.int .i64 t273)) (fun _ hk => hk.2) (.int .i64 t274)) (fun _ hk => trivial)⟩, ⟨by (with_reducible repeat (first | refine blk_drewN ?_ _ | refine blk_drew ?_ | refine blk_alloc ?_ _)); refine blk_far ?_ NB261_276.out _; (with_reducible repeat (first | refine blk_drewN ?_ _ | refine blk_drew ?_ | refine blk_alloc ?_ _)); refine blk_far ?_ NB261_276.out _; (with_reducible repeat (first | refine blk_drewN ?_ _ | refine blk_drew ?_ | refine blk_alloc ?_ _)); refine blk_far ?_ NB261_276.out _; (with_reducible repeat (first | refine blk_drewN ?_ _ | refine blk_drew ?_ | refine blk_alloc ?_ _)); exact BK261.out⟩, ⟨by (with_reducible repeat (first | refine blk_drewN ?_ _ | refine blk_drew ?_ | refine blk_alloc ?_ _)); refine blk_far ?_ NB262_276.out _; (with_reducible repeat (first | refine blk_drewN ?_ _ | refine blk_drew ?_ | refine blk_alloc ?_ _)); refine blk_far ?_ NB262_276.out _; (with_reducible repeat (first | refine blk_drewN ?_ _ | refine blk_drew ?_ | refine blk_alloc ?_ _)); refine blk_far ?_ NB262_276.out _; (with_reducible repeat (first | refine blk_drewN ?_ _ | refine blk_drew ?_ | refine blk_alloc ?_ _)); exact BK262.out⟩, ⟨by (with_reducible repeat (first | refine blk_drewN ?_ _ | refine blk_drew ?_ | refine blk_alloc ?_ _)); refine blk_far ?_ NB263_276.out _; (with_reducible repeat (first | refine blk_drewN ?_ _ | refine blk_drew ?_ | refine blk_alloc ?_ _)); refine blk_far ?_ NB263_276.out _; (with_reducible repeat (first | refine blk_drewN ?_ _ | refine blk_drew ?_ | refine blk_alloc ?_ _)); refine blk_far ?_ NB263_276.out _; (with_reducible repeat (first | refine blk_drewN ?_ _ | refine blk_drew ?_ | refine blk_alloc ?_ _)); exact BK263.out⟩, ⟨by (with_reducible repeat (first | refine blk_drewN ?_ _ | refine blk_drew ?_ | refine blk_alloc ?_ _)); refine blk_put (cs := #[.int .i64 t272, .int .i64 t273, .int .i64 0]) ?_ 2 _ rfl; (with_reducible repeat (first | refine blk_drewN ?_ _ | refine blk_drew ?_ | refine blk_alloc ?_ _)); refine blk_put (cs := #[.int .i64 t272, .int .i64 0, .int .i64 0]) ?_ 1 _ rfl; (with_reducible repeat (first | refine blk_drewN ?_ _ | refine blk_drew ?_ | refine blk_alloc ?_ _)); refine blk_put (cs := #[.int .i64 0, .int .i64 0, .int .i64 0]) ?_ 0 _ rfl; (with_reducible repeat (first | refine blk_drewN ?_ _ | refine blk_drew ?_ | refine blk_alloc ?_ _)); exact BK276.out⟩, ⟨bh_ HB⟩⟩
     ·rw [if_neg c48] at H
      have c48b0 : (t272 == 0) = false := beq_eq_false_iff_ne.mpr c48
      have c48b1 : (t272 != 0) = true := bne_iff_ne.mpr c48
      (first | rw [c48b0] | (simp only [i64_w, i32_w]; rw [c48b0]) | skip)
      obtain ⟨ji49, hji49⟩ : ∃ j_ : Int, (mx a2 0) = j_ := ⟨_, rfl⟩
      replace H : ((plan_done.f kj4 t267 t272 t273 t274 (mn (ji49) t274)).bind fun t277 => (plan_After.j1 kj4 t275 a0_0 a0_1 a0_2 t264 t265 t266 t277 t272 t273 t274)) = some (r1, r2, r3, r4) := by first | (rw [hji49] at H; exact H) | (simp only [hji49] at H ⊢; exact H)
      have hji49_ : (if a2 < 0 then 0 else a2) = ji49 := hji49
      obtain ⟨ji50, hji50⟩ : ∃ j_ : Int, (mn (ji49) t274) = j_ := ⟨_, rfl⟩
      replace H : ((plan_done.f kj4 t267 t272 t273 t274 (ji50)).bind fun t277 => (plan_After.j1 kj4 t275 a0_0 a0_1 a0_2 t264 t265 t266 t277 t272 t273 t274)) = some (r1, r2, r3, r4) := by first | (rw [hji50] at H; exact H) | (simp only [hji50] at H ⊢; exact H)
      have hji50_ : (if t274 < (ji49) then t274 else (ji49)) = ji50 := hji50
      replace H := Option.bind_eq_some_iff.mp H
      obtain ⟨t277, A510, H⟩ := H
      replace H : (plan_After.j1 kj4 t275 a0_0 a0_1 a0_2 t264 t265 t266 t277 t272 t273 t274) = some (r1, r2, r3, r4) := H
      have A51 := Aside0.mk A510
      clear A510
      have H' := Aside0.mk H
      clear H
      have hnb52 := NB262_261.out
      have hnc52 := NB261_262.out
      have hnb53 := NB262_263.out
      have hnc53 := NB263_262.out
      have hnb54 := NB262_276.out
      have hnc54 := NB276_262.out
      obtain ⟨hcz55_0, hcz55_1, hcz55_2, hcz55_3, hfz55_0, hfz55_1, hfz55_2, hfz55_3⟩ := c4_ BK262
      have hnb56 := NB276_261.out
      have hnc56 := NB261_276.out
      have hnb57 := NB276_263.out
      have hnc57 := NB263_276.out
      obtain ⟨hcz58_0, hcz58_1, hcz58_2, hfz58_0, hfz58_1, hfz58_2⟩ := c3_ BK276
      go_wp2_with (first | ((with_reducible refine gate_callee (f := 37) rfl ?_); refine goesL_ (some 37) rfl rfl Try.func37 (by kernel_rfl) rfl #[.slice Ao14 t267.length co14, .agg #[.int .i64 t272, .int .i64 t273, .int .i64 t274], .int .i64 ji50] rfl (by (try simp only [List.map_toArray, List.map_cons, List.map_nil]); first | done | (simp only [hji50]; rfl) | rfl | (simp only [List.length_drop, List.length_take]; rfl)) ?_; (with_reducible refine (plan_done.calls kj4 _ _ t267 t272 t273 t274 ji50 t277 _ ?side1 ?side2 A51.out).mono ?_); (case side1 => refine (Kd.R_reads' (e := 33) (base := w.heap.size) (ok := fun k_ => True) (n := t267.length) (c := co14) ?_).2.2; exact (by (with_reducible repeat (first | apply Kd.R_alloc | apply Kd.R_drewN | apply Kd.R_drew)); exact (Kd.R_mono (Kd.R_far (p := ⟨gb276, 2, none⟩) (Kd.R_far (p := ⟨gb276, 1, none⟩) (Kd.R_far (p := ⟨gb276, 0, none⟩) (Kd.R_types HO_263003.out BK276.out (by decide)) (fun _ hk => hk.2) (.int .i64 t272)) (fun _ hk => hk.2) (.int .i64 t273)) (fun _ hk => hk.2) (.int .i64 t274)) (fun _ h_ => h_.1)))); (case side2 => exact (Kd.R_reads' HO_263003.out).2.1); rintro e w59 ⟨v278, rfl, ho0, hb⟩; refine ⟨_, rfl, ?_⟩; have n0_ := Aside0.mk (Kd.R_elder' (by (with_reducible repeat (first | apply Kd.R_alloc | apply Kd.R_drewN | apply Kd.R_drew)); exact (Kd.R_mono (Kd.R_far (p := ⟨gb276, 2, none⟩) (Kd.R_far (p := ⟨gb276, 1, none⟩) (Kd.R_far (p := ⟨gb276, 0, none⟩) (Kd.R_types HO_263003.out BK276.out (by decide)) (fun _ hk => hk.2) (.int .i64 t272)) (fun _ hk => hk.2) (.int .i64 t273)) (fun _ hk => hk.2) (.int .i64 t274)) (fun _ h_ => h_.1))) (Kd.R_base ho0) hb); have n1_ := Aside0.mk (Kd.R_lower (Kd.R_new' ho0 (Kd.R_lt (by (with_reducible repeat (first | apply Kd.R_alloc | apply Kd.R_drewN | apply Kd.R_drew)); exact (Kd.R_mono (Kd.R_far (p := ⟨gb276, 2, none⟩) (Kd.R_far (p := ⟨gb276, 1, none⟩) (Kd.R_far (p := ⟨gb276, 0, none⟩) (Kd.R_types HO_263003.out BK276.out (by decide)) (fun _ hk => hk.2) (.int .i64 t272)) (fun _ hk => hk.2) (.int .i64 t273)) (fun _ hk => hk.2) (.int .i64 t274)) (fun _ h_ => h_.1))))) (below_size (bh_ HB))); have n2_ := Aside0.mk (blk_below (g := gb261) (o := .cells #[.int .i64 a0_0, .int .i64 a0_1, .bool a0_2] 23 (0, 0)) (bp_ BK261) hb); have n3_ := Aside0.mk (blk_below (g := gb262) (o := .cells #[.int .i64 t264, .int .i64 t265, .int .u8 t266, .slice Ao14 t267.length co14] 26 (0, 0)) (bp_ BK262) hb); have n4_ := Aside0.mk (blk_below (g := gb263) (o := .cells #[.int .i64 0, .int .i64 0, .int .u8 0, .slice none 0 0] 26 (0, 0)) (bp_ BK263) hb); have n5_ := Aside0.mk (blk_below (g := gb276) (o := .cells #[.int .i64 t272, .int .i64 t273, .int .i64 t274] 29 (0, 0)) (bp_ BK276) hb); have n6_ := bs_ HB hb; clear HO_263003; clear BK261; clear BK262; clear BK263; clear BK276; clear HB; have HO_263003 := n0_; have HO279 := n1_; have BK261 := n2_; have BK262 := n3_; have BK263 := n4_; have BK276 := n5_; have HB := n6_; clear n0_ n1_ n2_ n3_ n4_ n5_ n6_; (try clear hb); (try clear hb2); (try clear hk); (try clear hi); (try clear ho0); obtain ⟨Ao60, co60, eo60⟩ := Kd.R_slice HO279.out; subst eo60; obtain ⟨hcz61_0, hcz61_1, hcz61_2, hcz61_3, hfz61_0, hfz61_1, hfz61_2, hfz61_3⟩ := c4_ BK262))
      go_meet
      case rel => exact ⟨_, (t277), (.slice Ao60 t277.length co60), H', ⟨by have := HJ4.out; first | omega | exact Nat.le_refl _⟩, ⟨by (with_reducible repeat (first | apply Kd.R_alloc | apply Kd.R_drewN | apply Kd.R_drew)); exact Kd.R_mono (Kd.R_far (p := ⟨gb262, 3, none⟩) (Kd.R_types HO279.out BK262.out (by decide)) (fun _ hk => hk.2) (.slice Ao60 t277.length co60)) (fun _ hk => trivial)⟩, ⟨by (with_reducible repeat (first | refine blk_drewN ?_ _ | refine blk_drew ?_ | refine blk_alloc ?_ _)); refine blk_far ?_ NB261_262.out _; (with_reducible repeat (first | refine blk_drewN ?_ _ | refine blk_drew ?_ | refine blk_alloc ?_ _)); exact BK261.out⟩, ⟨by (with_reducible repeat (first | refine blk_drewN ?_ _ | refine blk_drew ?_ | refine blk_alloc ?_ _)); refine blk_put (cs := #[.int .i64 t264, .int .i64 t265, .int .u8 t266, .slice Ao14 t267.length co14]) ?_ 3 _ rfl; (with_reducible repeat (first | refine blk_drewN ?_ _ | refine blk_drew ?_ | refine blk_alloc ?_ _)); exact BK262.out⟩, ⟨by (with_reducible repeat (first | refine blk_drewN ?_ _ | refine blk_drew ?_ | refine blk_alloc ?_ _)); refine blk_far ?_ NB263_262.out _; (with_reducible repeat (first | refine blk_drewN ?_ _ | refine blk_drew ?_ | refine blk_alloc ?_ _)); exact BK263.out⟩, ⟨by (with_reducible repeat (first | refine blk_drewN ?_ _ | refine blk_drew ?_ | refine blk_alloc ?_ _)); refine blk_far ?_ NB276_262.out _; (with_reducible repeat (first | refine blk_drewN ?_ _ | refine blk_drew ?_ | refine blk_alloc ?_ _)); exact BK276.out⟩, ⟨bh_ HB⟩⟩
    case rest =>
     clear HC36
     try clear c1
     try clear c2
     try clear p2
     try clear c3
     try clear c4
     try clear c5
     try clear c9
     try clear c10
     try clear c13
     try clear c14
     try clear c16
     try clear c18
     try clear c19
     try clear c22
     try clear c25
     try clear c26
     try clear c29
     try clear c30
     try clear c31
     try clear c33
     try clear c35
     try clear c36
     try clear c37
     try clear c38
     try clear c40
     try clear c44
     try clear c45
     try clear c46
     try clear c48
     try clear c48b0
     try clear c48b1
     try clear c52
     try clear c53
     try clear c54
     try clear c56
     try clear c57
     try clear hcz11_0 hcz11_1 hcz11_2 hcz11_3
     try clear hcz13_0 hcz13_1 hcz13_2 hcz13_3
     try clear hcz20_0 hcz20_1 hcz20_2
     try clear hcz23_0 hcz23_1 hcz23_2 hcz23_3
     try clear hcz27_0 hcz27_1 hcz27_2
     try clear hcz32_0 hcz32_1 hcz32_2 hcz32_3
     try clear hcz34_0 hcz34_1 hcz34_2 hcz34_3
     try clear hcz39_0 hcz39_1 hcz39_2
     try clear hcz41_0 hcz41_1 hcz41_2 hcz41_3
     try clear hcz47_0 hcz47_1 hcz47_2
     try clear hcz55_0 hcz55_1 hcz55_2 hcz55_3
     try clear hcz58_0 hcz58_1 hcz58_2
     try clear hcz61_0 hcz61_1 hcz61_2 hcz61_3
     try clear hfz11_0 hfz11_1 hfz11_2 hfz11_3
     try clear hfz13_0 hfz13_1 hfz13_2 hfz13_3
     try clear hfz20_0 hfz20_1 hfz20_2
     try clear hfz23_0 hfz23_1 hfz23_2 hfz23_3
     try clear hfz27_0 hfz27_1 hfz27_2
     try clear hfz32_0 hfz32_1 hfz32_2 hfz32_3
     try clear hfz34_0 hfz34_1 hfz34_2 hfz34_3
     try clear hfz39_0 hfz39_1 hfz39_2
     try clear hfz41_0 hfz41_1 hfz41_2 hfz41_3
     try clear hfz47_0 hfz47_1 hfz47_2
     try clear hfz55_0 hfz55_1 hfz55_2 hfz55_3
     try clear hfz58_0 hfz58_1 hfz58_2
     try clear hfz61_0 hfz61_1 hfz61_2 hfz61_3
     try clear p2
     obtain ⟨kq, x263003_35, u263003, HA, HJ35, HO_263003, BK261, BK262, BK263, BK276, HB⟩ := hcut
     cases kq with
     | zero => exact absurd HA.out (by simp [plan_After.j1])
     | succ kj35 =>
      have H := HA.out
      clear HA
      simp only [plan_After.j1] at H
      by_cases c62 : t272 = 4
      ·rw [if_pos c62] at H
       have c62b0 : (t272 == 4) = true := beq_iff_eq.mpr c62
       have c62b1 : (t272 != 4) = false := bne_eq_false_iff_eq.mpr c62
       clear c62
       by_cases c63 : a0_2 = true
       ·subst c63
        have H1 : (if t275 = true then ((plan_status.f kj35 a0_0 a0_1 true t273 (wrap64 (t265 + 1)) t266 x263003_35).bind fun t280 => (some (t273, wrap64 (t265 + 1), t280, x263003_35))) else ((plan_status.f kj35 a0_0 a0_1 true t273 t265 t266 x263003_35).bind fun t281 => (some (t273, t265, t281, x263003_35)))) = some (r1, r2, r3, r4) := by rw [if_pos rfl] at H; exact H
        clear H
        have H := H1
        clear H1
        by_cases c64 : t275 = true
        ·subst c64
         have H1 : ((plan_status.f kj35 a0_0 a0_1 true t273 (wrap64 (t265 + 1)) t266 x263003_35).bind fun t280 => (some (t273, wrap64 (t265 + 1), t280, x263003_35))) = some (r1, r2, r3, r4) := by rw [if_pos rfl] at H; exact H
         clear H
         have H := H1
         clear H1
         replace H := Option.bind_eq_some_iff.mp H
         obtain ⟨t280, A650, H⟩ := H
         replace H : (some (t273, wrap64 (t265 + 1), t280, x263003_35)) = some (r1, r2, r3, r4) := H
         have A65 := Aside0.mk A650
         clear A650
         simp only [Option.some.injEq, Prod.mk.injEq] at H
         obtain ⟨rfl, rfl, rfl, rfl⟩ := H
         have hnb66 := NB276_261.out
         have hnc66 := NB261_276.out
         have hnb67 := NB276_262.out
         have hnc67 := NB262_276.out
         have hnb68 := NB276_263.out
         have hnc68 := NB263_276.out
         obtain ⟨hcz69_0, hcz69_1, hcz69_2, hfz69_0, hfz69_1, hfz69_2⟩ := c3_ BK276
         have hnb70 := NB262_261.out
         have hnc70 := NB261_262.out
         have hnb71 := NB262_263.out
         have hnc71 := NB263_262.out
         obtain ⟨hcz72_0, hcz72_1, hcz72_2, hcz72_3, hfz72_0, hfz72_1, hfz72_2, hfz72_3⟩ := c4_ BK262
         have hnb73 := NB261_263.out
         have hnc73 := NB263_261.out
         obtain ⟨hcz74_0, hcz74_1, hcz74_2, hfz74_0, hfz74_1, hfz74_2⟩ := c3_ BK261
         obtain ⟨Ao75, co75, eo75⟩ := Kd.R_slice HO_263003.out
         subst eo75
         go_wp2_with (first | ((with_reducible refine gate_callee (f := 38) rfl ?_); refine gl_ (some 60) rfl rfl Try.func38 (by kernel_rfl) rfl #[.agg #[.int .i64 a0_0, .int .i64 a0_1, .bool true], .agg #[.int .i64 t273, .int .i64 (wrap64 (t265 + 1)), .int .u8 t266, .slice Ao75 x263003_35.length co75]] rfl ?_; (with_reducible refine (plan_status.calls kj35 a0_0 a0_1 true t273 (wrap64 (t265 + 1)) t266 _ _ x263003_35 t280 _ ?side1 ?side2 A65.out).mono ?_); (case side1 => refine (Kd.R_reads' (e := 33) (base := w.heap.size) (ok := fun k_ => True) (n := x263003_35.length) (c := co75) ?_).2.2; exact (by (with_reducible repeat (first | apply Kd.R_alloc | apply Kd.R_drewN | apply Kd.R_drew)); exact (Kd.R_mono (Kd.R_far (p := ⟨gb262, 1, none⟩) (Kd.R_far (p := ⟨gb262, 0, none⟩) (Kd.R_far (p := ⟨gb262, 0, none⟩) (Kd.R_types HO_263003.out BK262.out (by decide)) (fun _ hk => hk.2) (.int .i64 (wrap64 (t273 + t274)))) (fun _ hk => hk.2) (.int .i64 t273)) (fun _ hk => hk.2) (.int .i64 (wrap64 (t265 + 1)))) (fun _ h_ => h_.1)))); (case side2 => exact (Kd.R_reads' HO_263003.out).2.1); rintro e w76 ⟨rfl, hb⟩; refine ⟨_, rfl, ?_⟩; have n0_ := Aside0.mk (Kd.R_below (by (with_reducible repeat (first | apply Kd.R_alloc | apply Kd.R_drewN | apply Kd.R_drew)); exact (Kd.R_mono (Kd.R_far (p := ⟨gb262, 1, none⟩) (Kd.R_far (p := ⟨gb262, 0, none⟩) (Kd.R_far (p := ⟨gb262, 0, none⟩) (Kd.R_types HO_263003.out BK262.out (by decide)) (fun _ hk => hk.2) (.int .i64 (wrap64 (t273 + t274)))) (fun _ hk => hk.2) (.int .i64 t273)) (fun _ hk => hk.2) (.int .i64 (wrap64 (t265 + 1)))) (fun _ h_ => h_.1))) hb); have n1_ := Aside0.mk (blk_below (g := gb261) (o := .cells #[.int .i64 a0_0, .int .i64 a0_1, .bool true] 23 (0, 0)) (bp_ BK261) hb); have n2_ := Aside0.mk (blk_below (g := gb262) (o := .cells #[.int .i64 t273, .int .i64 (wrap64 (t265 + 1)), .int .u8 t266, .slice Ao75 x263003_35.length co75] 26 (0, 0)) (bp_ BK262) hb); have n3_ := Aside0.mk (blk_below (g := gb263) (o := .cells #[.int .i64 0, .int .i64 0, .int .u8 0, .slice none 0 0] 26 (0, 0)) (bp_ BK263) hb); have n4_ := Aside0.mk (blk_below (g := gb276) (o := .cells #[.int .i64 t272, .int .i64 t273, .int .i64 t274] 29 (0, 0)) (bp_ BK276) hb); have n5_ := bs_ HB hb; clear HO_263003; clear BK261; clear BK262; clear BK263; clear BK276; clear HB; have HO_263003 := n0_; have BK261 := n1_; have BK262 := n2_; have BK263 := n3_; have BK276 := n4_; have HB := n5_; clear n0_ n1_ n2_ n3_ n4_ n5_; (try clear hb); obtain ⟨hcz77_0, hcz77_1, hcz77_2, hcz77_3, hfz77_0, hfz77_1, hfz77_2, hfz77_3⟩ := c4_ BK262; obtain ⟨hcz78_0, hcz78_1, hcz78_2, hcz78_3, hfz78_0, hfz78_1, hfz78_2, hfz78_3⟩ := c4_ BK263))
         refine bodyPost_ret (results_cell_row rfl _ _ gb263 26 #[.int .i64 t273, .int .i64 (wrap64 (t265 + 1)), .int .u8 t280, .slice Ao75 x263003_35.length co75] (0, 0) _ rfl (bp_ BK263) Try.underlying26 rfl (by kernel_rfl)) rfl ?_
         exact ⟨_, by first | rfl | (simp [errW_none, errW_some] <;> rfl) | (simp [*, errW_none, errW_some] <;> rfl), by (with_reducible repeat (first | apply Kd.R_alloc | apply Kd.R_drewN | apply Kd.R_drew)); exact Kd.R_mono (Kd.R_far (p := ⟨gb263, 3, none⟩) (Kd.R_far (p := ⟨gb263, 2, none⟩) (Kd.R_far (p := ⟨gb263, 1, none⟩) (Kd.R_far (p := ⟨gb263, 0, none⟩) (Kd.R_far (p := ⟨gb262, 2, none⟩) (Kd.R_types (Kd.R_types HO_263003.out BK262.out (by decide)) BK263.out (by decide)) (fun _ hk => hk.1.2) (.int .u8 t280)) (fun _ hk => hk.2) (.int .i64 t273)) (fun _ hk => hk.2) (.int .i64 (wrap64 (t265 + 1)))) (fun _ hk => hk.2) (.int .u8 t280)) (fun _ hk => hk.2) (.slice Ao75 x263003_35.length co75)) (fun _ hk => trivial), bh_ HB⟩
        ·replace c64 := Bool.eq_false_iff.mpr c64
         subst c64
         have H1 : ((plan_status.f kj35 a0_0 a0_1 true t273 t265 t266 x263003_35).bind fun t281 => (some (t273, t265, t281, x263003_35))) = some (r1, r2, r3, r4) := by rw [if_neg (show ¬ (false = true) by decide)] at H; exact H
         clear H
         have H := H1
         clear H1
         replace H := Option.bind_eq_some_iff.mp H
         obtain ⟨t281, A790, H⟩ := H
         replace H : (some (t273, t265, t281, x263003_35)) = some (r1, r2, r3, r4) := H
         have A79 := Aside0.mk A790
         clear A790
         simp only [Option.some.injEq, Prod.mk.injEq] at H
         obtain ⟨rfl, rfl, rfl, rfl⟩ := H
         have hnb80 := NB276_261.out
         have hnc80 := NB261_276.out
         have hnb81 := NB276_262.out
         have hnc81 := NB262_276.out
         have hnb82 := NB276_263.out
         have hnc82 := NB263_276.out
         obtain ⟨hcz83_0, hcz83_1, hcz83_2, hfz83_0, hfz83_1, hfz83_2⟩ := c3_ BK276
         have hnb84 := NB262_261.out
         have hnc84 := NB261_262.out
         have hnb85 := NB262_263.out
         have hnc85 := NB263_262.out
         obtain ⟨hcz86_0, hcz86_1, hcz86_2, hcz86_3, hfz86_0, hfz86_1, hfz86_2, hfz86_3⟩ := c4_ BK262
         have hnb87 := NB261_263.out
         have hnc87 := NB263_261.out
         obtain ⟨hcz88_0, hcz88_1, hcz88_2, hfz88_0, hfz88_1, hfz88_2⟩ := c3_ BK261
         obtain ⟨Ao89, co89, eo89⟩ := Kd.R_slice HO_263003.out
         subst eo89
         go_wp2_with (first | ((with_reducible refine gate_callee (f := 38) rfl ?_); refine gl_ (some 60) rfl rfl Try.func38 (by kernel_rfl) rfl #[.agg #[.int .i64 a0_0, .int .i64 a0_1, .bool true], .agg #[.int .i64 t273, .int .i64 t265, .int .u8 t266, .slice Ao89 x263003_35.length co89]] rfl ?_; (with_reducible refine (plan_status.calls kj35 a0_0 a0_1 true t273 t265 t266 _ _ x263003_35 t281 _ ?side1 ?side2 A79.out).mono ?_); (case side1 => refine (Kd.R_reads' (e := 33) (base := w.heap.size) (ok := fun k_ => True) (n := x263003_35.length) (c := co89) ?_).2.2; exact (by (with_reducible repeat (first | apply Kd.R_alloc | apply Kd.R_drewN | apply Kd.R_drew)); exact (Kd.R_mono (Kd.R_far (p := ⟨gb262, 0, none⟩) (Kd.R_far (p := ⟨gb262, 0, none⟩) (Kd.R_types HO_263003.out BK262.out (by decide)) (fun _ hk => hk.2) (.int .i64 (wrap64 (t273 + t274)))) (fun _ hk => hk.2) (.int .i64 t273)) (fun _ h_ => h_.1)))); (case side2 => exact (Kd.R_reads' HO_263003.out).2.1); rintro e w90 ⟨rfl, hb⟩; refine ⟨_, rfl, ?_⟩; have n0_ := Aside0.mk (Kd.R_below (by (with_reducible repeat (first | apply Kd.R_alloc | apply Kd.R_drewN | apply Kd.R_drew)); exact (Kd.R_mono (Kd.R_far (p := ⟨gb262, 0, none⟩) (Kd.R_far (p := ⟨gb262, 0, none⟩) (Kd.R_types HO_263003.out BK262.out (by decide)) (fun _ hk => hk.2) (.int .i64 (wrap64 (t273 + t274)))) (fun _ hk => hk.2) (.int .i64 t273)) (fun _ h_ => h_.1))) hb); have n1_ := Aside0.mk (blk_below (g := gb261) (o := .cells #[.int .i64 a0_0, .int .i64 a0_1, .bool true] 23 (0, 0)) (bp_ BK261) hb); have n2_ := Aside0.mk (blk_below (g := gb262) (o := .cells #[.int .i64 t273, .int .i64 t265, .int .u8 t266, .slice Ao89 x263003_35.length co89] 26 (0, 0)) (bp_ BK262) hb); have n3_ := Aside0.mk (blk_below (g := gb263) (o := .cells #[.int .i64 0, .int .i64 0, .int .u8 0, .slice none 0 0] 26 (0, 0)) (bp_ BK263) hb); have n4_ := Aside0.mk (blk_below (g := gb276) (o := .cells #[.int .i64 t272, .int .i64 t273, .int .i64 t274] 29 (0, 0)) (bp_ BK276) hb); have n5_ := bs_ HB hb; clear HO_263003; clear BK261; clear BK262; clear BK263; clear BK276; clear HB; have HO_263003 := n0_; have BK261 := n1_; have BK262 := n2_; have BK263 := n3_; have BK276 := n4_; have HB := n5_; clear n0_ n1_ n2_ n3_ n4_ n5_; (try clear hb); obtain ⟨hcz91_0, hcz91_1, hcz91_2, hcz91_3, hfz91_0, hfz91_1, hfz91_2, hfz91_3⟩ := c4_ BK262; obtain ⟨hcz92_0, hcz92_1, hcz92_2, hcz92_3, hfz92_0, hfz92_1, hfz92_2, hfz92_3⟩ := c4_ BK263))
         refine bodyPost_ret (results_cell_row rfl _ _ gb263 26 #[.int .i64 t273, .int .i64 t265, .int .u8 t281, .slice Ao89 x263003_35.length co89] (0, 0) _ rfl (bp_ BK263) Try.underlying26 rfl (by kernel_rfl)) rfl ?_
         exact ⟨_, by first | rfl | (simp [errW_none, errW_some] <;> rfl) | (simp [*, errW_none, errW_some] <;> rfl), by (with_reducible repeat (first | apply Kd.R_alloc | apply Kd.R_drewN | apply Kd.R_drew)); exact Kd.R_mono (Kd.R_far (p := ⟨gb263, 3, none⟩) (Kd.R_far (p := ⟨gb263, 2, none⟩) (Kd.R_far (p := ⟨gb263, 1, none⟩) (Kd.R_far (p := ⟨gb263, 0, none⟩) (Kd.R_far (p := ⟨gb262, 2, none⟩) (Kd.R_types (Kd.R_types HO_263003.out BK262.out (by decide)) BK263.out (by decide)) (fun _ hk => hk.1.2) (.int .u8 t281)) (fun _ hk => hk.2) (.int .i64 t273)) (fun _ hk => hk.2) (.int .i64 t265)) (fun _ hk => hk.2) (.int .u8 t281)) (fun _ hk => hk.2) (.slice Ao89 x263003_35.length co89)) (fun _ hk => trivial), bh_ HB⟩
       ·replace c63 := Bool.eq_false_iff.mpr c63
        subst c63
        have H1 : (if t275 = true then ((plan_status.f kj35 a0_0 a0_1 false (wrap64 (t273 + t274)) (wrap64 (t265 + 1)) t266 x263003_35).bind fun t282 => (some (wrap64 (t273 + t274), wrap64 (t265 + 1), t282, x263003_35))) else ((plan_status.f kj35 a0_0 a0_1 false (wrap64 (t273 + t274)) t265 t266 x263003_35).bind fun t283 => (some (wrap64 (t273 + t274), t265, t283, x263003_35)))) = some (r1, r2, r3, r4) := by rw [if_neg (show ¬ (false = true) by decide)] at H; exact H
        clear H
        have H := H1
        clear H1
        by_cases c93 : t275 = true
        ·subst c93
         have H1 : ((plan_status.f kj35 a0_0 a0_1 false (wrap64 (t273 + t274)) (wrap64 (t265 + 1)) t266 x263003_35).bind fun t282 => (some (wrap64 (t273 + t274), wrap64 (t265 + 1), t282, x263003_35))) = some (r1, r2, r3, r4) := by rw [if_pos rfl] at H; exact H
         clear H
         have H := H1
         clear H1
         replace H := Option.bind_eq_some_iff.mp H
         obtain ⟨t282, A940, H⟩ := H
         replace H : (some (wrap64 (t273 + t274), wrap64 (t265 + 1), t282, x263003_35)) = some (r1, r2, r3, r4) := H
         have A94 := Aside0.mk A940
         clear A940
         simp only [Option.some.injEq, Prod.mk.injEq] at H
         obtain ⟨rfl, rfl, rfl, rfl⟩ := H
         have hnb95 := NB276_261.out
         have hnc95 := NB261_276.out
         have hnb96 := NB276_262.out
         have hnc96 := NB262_276.out
         have hnb97 := NB276_263.out
         have hnc97 := NB263_276.out
         obtain ⟨hcz98_0, hcz98_1, hcz98_2, hfz98_0, hfz98_1, hfz98_2⟩ := c3_ BK276
         have hnb99 := NB262_261.out
         have hnc99 := NB261_262.out
         have hnb100 := NB262_263.out
         have hnc100 := NB263_262.out
         obtain ⟨hcz101_0, hcz101_1, hcz101_2, hcz101_3, hfz101_0, hfz101_1, hfz101_2, hfz101_3⟩ := c4_ BK262
         have hnb102 := NB261_263.out
         have hnc102 := NB263_261.out
         obtain ⟨hcz103_0, hcz103_1, hcz103_2, hfz103_0, hfz103_1, hfz103_2⟩ := c3_ BK261
         obtain ⟨Ao104, co104, eo104⟩ := Kd.R_slice HO_263003.out
         subst eo104
         go_wp2_with (first | ((with_reducible refine gate_callee (f := 38) rfl ?_); refine gl_ (some 60) rfl rfl Try.func38 (by kernel_rfl) rfl #[.agg #[.int .i64 a0_0, .int .i64 a0_1, .bool false], .agg #[.int .i64 (wrap64 (t273 + t274)), .int .i64 (wrap64 (t265 + 1)), .int .u8 t266, .slice Ao104 x263003_35.length co104]] rfl ?_; (with_reducible refine (plan_status.calls kj35 a0_0 a0_1 false (wrap64 (t273 + t274)) (wrap64 (t265 + 1)) t266 _ _ x263003_35 t282 _ ?side1 ?side2 A94.out).mono ?_); (case side1 => refine (Kd.R_reads' (e := 33) (base := w.heap.size) (ok := fun k_ => True) (n := x263003_35.length) (c := co104) ?_).2.2; exact (by (with_reducible repeat (first | apply Kd.R_alloc | apply Kd.R_drewN | apply Kd.R_drew)); exact (Kd.R_mono (Kd.R_far (p := ⟨gb262, 1, none⟩) (Kd.R_far (p := ⟨gb262, 0, none⟩) (Kd.R_types HO_263003.out BK262.out (by decide)) (fun _ hk => hk.2) (.int .i64 (wrap64 (t273 + t274)))) (fun _ hk => hk.2) (.int .i64 (wrap64 (t265 + 1)))) (fun _ h_ => h_.1)))); (case side2 => exact (Kd.R_reads' HO_263003.out).2.1); rintro e w105 ⟨rfl, hb⟩; refine ⟨_, rfl, ?_⟩; have n0_ := Aside0.mk (Kd.R_below (by (with_reducible repeat (first | apply Kd.R_alloc | apply Kd.R_drewN | apply Kd.R_drew)); exact (Kd.R_mono (Kd.R_far (p := ⟨gb262, 1, none⟩) (Kd.R_far (p := ⟨gb262, 0, none⟩) (Kd.R_types HO_263003.out BK262.out (by decide)) (fun _ hk => hk.2) (.int .i64 (wrap64 (t273 + t274)))) (fun _ hk => hk.2) (.int .i64 (wrap64 (t265 + 1)))) (fun _ h_ => h_.1))) hb); have n1_ := Aside0.mk (blk_below (g := gb261) (o := .cells #[.int .i64 a0_0, .int .i64 a0_1, .bool false] 23 (0, 0)) (bp_ BK261) hb); have n2_ := Aside0.mk (blk_below (g := gb262) (o := .cells #[.int .i64 (wrap64 (t273 + t274)), .int .i64 (wrap64 (t265 + 1)), .int .u8 t266, .slice Ao104 x263003_35.length co104] 26 (0, 0)) (bp_ BK262) hb); have n3_ := Aside0.mk (blk_below (g := gb263) (o := .cells #[.int .i64 0, .int .i64 0, .int .u8 0, .slice none 0 0] 26 (0, 0)) (bp_ BK263) hb); have n4_ := Aside0.mk (blk_below (g := gb276) (o := .cells #[.int .i64 t272, .int .i64 t273, .int .i64 t274] 29 (0, 0)) (bp_ BK276) hb); have n5_ := bs_ HB hb; clear HO_263003; clear BK261; clear BK262; clear BK263; clear BK276; clear HB; have HO_263003 := n0_; have BK261 := n1_; have BK262 := n2_; have BK263 := n3_; have BK276 := n4_; have HB := n5_; clear n0_ n1_ n2_ n3_ n4_ n5_; (try clear hb); obtain ⟨hcz106_0, hcz106_1, hcz106_2, hcz106_3, hfz106_0, hfz106_1, hfz106_2, hfz106_3⟩ := c4_ BK262; obtain ⟨hcz107_0, hcz107_1, hcz107_2, hcz107_3, hfz107_0, hfz107_1, hfz107_2, hfz107_3⟩ := c4_ BK263))
         refine bodyPost_ret (results_cell_row rfl _ _ gb263 26 #[.int .i64 (wrap64 (t273 + t274)), .int .i64 (wrap64 (t265 + 1)), .int .u8 t282, .slice Ao104 x263003_35.length co104] (0, 0) _ rfl (bp_ BK263) Try.underlying26 rfl (by kernel_rfl)) rfl ?_
         exact ⟨_, by first | rfl | (simp [errW_none, errW_some] <;> rfl) | (simp [*, errW_none, errW_some] <;> rfl), by (with_reducible repeat (first | apply Kd.R_alloc | apply Kd.R_drewN | apply Kd.R_drew)); exact Kd.R_mono (Kd.R_far (p := ⟨gb263, 3, none⟩) (Kd.R_far (p := ⟨gb263, 2, none⟩) (Kd.R_far (p := ⟨gb263, 1, none⟩) (Kd.R_far (p := ⟨gb263, 0, none⟩) (Kd.R_far (p := ⟨gb262, 2, none⟩) (Kd.R_types (Kd.R_types HO_263003.out BK262.out (by decide)) BK263.out (by decide)) (fun _ hk => hk.1.2) (.int .u8 t282)) (fun _ hk => hk.2) (.int .i64 (wrap64 (t273 + t274)))) (fun _ hk => hk.2) (.int .i64 (wrap64 (t265 + 1)))) (fun _ hk => hk.2) (.int .u8 t282)) (fun _ hk => hk.2) (.slice Ao104 x263003_35.length co104)) (fun _ hk => trivial), bh_ HB⟩
        ·replace c93 := Bool.eq_false_iff.mpr c93
         subst c93
         have H1 : ((plan_status.f kj35 a0_0 a0_1 false (wrap64 (t273 + t274)) t265 t266 x263003_35).bind fun t283 => (some (wrap64 (t273 + t274), t265, t283, x263003_35))) = some (r1, r2, r3, r4) := by rw [if_neg (show ¬ (false = true) by decide)] at H; exact H
         clear H
         have H := H1
         clear H1
         replace H := Option.bind_eq_some_iff.mp H
         obtain ⟨t283, A1080, H⟩ := H
         replace H : (some (wrap64 (t273 + t274), t265, t283, x263003_35)) = some (r1, r2, r3, r4) := H
         have A108 := Aside0.mk A1080
         clear A1080
         simp only [Option.some.injEq, Prod.mk.injEq] at H
         obtain ⟨rfl, rfl, rfl, rfl⟩ := H
         have hnb109 := NB276_261.out
         have hnc109 := NB261_276.out
         have hnb110 := NB276_262.out
         have hnc110 := NB262_276.out
         have hnb111 := NB276_263.out
         have hnc111 := NB263_276.out
         obtain ⟨hcz112_0, hcz112_1, hcz112_2, hfz112_0, hfz112_1, hfz112_2⟩ := c3_ BK276
         have hnb113 := NB262_261.out
         have hnc113 := NB261_262.out
         have hnb114 := NB262_263.out
         have hnc114 := NB263_262.out
         obtain ⟨hcz115_0, hcz115_1, hcz115_2, hcz115_3, hfz115_0, hfz115_1, hfz115_2, hfz115_3⟩ := c4_ BK262
         have hnb116 := NB261_263.out
         have hnc116 := NB263_261.out
         obtain ⟨hcz117_0, hcz117_1, hcz117_2, hfz117_0, hfz117_1, hfz117_2⟩ := c3_ BK261
         obtain ⟨Ao118, co118, eo118⟩ := Kd.R_slice HO_263003.out
         subst eo118
         go_wp2_with (first | ((with_reducible refine gate_callee (f := 38) rfl ?_); refine gl_ (some 60) rfl rfl Try.func38 (by kernel_rfl) rfl #[.agg #[.int .i64 a0_0, .int .i64 a0_1, .bool false], .agg #[.int .i64 (wrap64 (t273 + t274)), .int .i64 t265, .int .u8 t266, .slice Ao118 x263003_35.length co118]] rfl ?_; (with_reducible refine (plan_status.calls kj35 a0_0 a0_1 false (wrap64 (t273 + t274)) t265 t266 _ _ x263003_35 t283 _ ?side1 ?side2 A108.out).mono ?_); (case side1 => refine (Kd.R_reads' (e := 33) (base := w.heap.size) (ok := fun k_ => True) (n := x263003_35.length) (c := co118) ?_).2.2; exact (by (with_reducible repeat (first | apply Kd.R_alloc | apply Kd.R_drewN | apply Kd.R_drew)); exact (Kd.R_mono (Kd.R_far (p := ⟨gb262, 0, none⟩) (Kd.R_types HO_263003.out BK262.out (by decide)) (fun _ hk => hk.2) (.int .i64 (wrap64 (t273 + t274)))) (fun _ h_ => h_.1)))); (case side2 => exact (Kd.R_reads' HO_263003.out).2.1); rintro e w119 ⟨rfl, hb⟩; refine ⟨_, rfl, ?_⟩; have n0_ := Aside0.mk (Kd.R_below (by (with_reducible repeat (first | apply Kd.R_alloc | apply Kd.R_drewN | apply Kd.R_drew)); exact (Kd.R_mono (Kd.R_far (p := ⟨gb262, 0, none⟩) (Kd.R_types HO_263003.out BK262.out (by decide)) (fun _ hk => hk.2) (.int .i64 (wrap64 (t273 + t274)))) (fun _ h_ => h_.1))) hb); have n1_ := Aside0.mk (blk_below (g := gb261) (o := .cells #[.int .i64 a0_0, .int .i64 a0_1, .bool false] 23 (0, 0)) (bp_ BK261) hb); have n2_ := Aside0.mk (blk_below (g := gb262) (o := .cells #[.int .i64 (wrap64 (t273 + t274)), .int .i64 t265, .int .u8 t266, .slice Ao118 x263003_35.length co118] 26 (0, 0)) (bp_ BK262) hb); have n3_ := Aside0.mk (blk_below (g := gb263) (o := .cells #[.int .i64 0, .int .i64 0, .int .u8 0, .slice none 0 0] 26 (0, 0)) (bp_ BK263) hb); have n4_ := Aside0.mk (blk_below (g := gb276) (o := .cells #[.int .i64 t272, .int .i64 t273, .int .i64 t274] 29 (0, 0)) (bp_ BK276) hb); have n5_ := bs_ HB hb; clear HO_263003; clear BK261; clear BK262; clear BK263; clear BK276; clear HB; have HO_263003 := n0_; have BK261 := n1_; have BK262 := n2_; have BK263 := n3_; have BK276 := n4_; have HB := n5_; clear n0_ n1_ n2_ n3_ n4_ n5_; (try clear hb); obtain ⟨hcz120_0, hcz120_1, hcz120_2, hcz120_3, hfz120_0, hfz120_1, hfz120_2, hfz120_3⟩ := c4_ BK262; obtain ⟨hcz121_0, hcz121_1, hcz121_2, hcz121_3, hfz121_0, hfz121_1, hfz121_2, hfz121_3⟩ := c4_ BK263))
         refine bodyPost_ret (results_cell_row rfl _ _ gb263 26 #[.int .i64 (wrap64 (t273 + t274)), .int .i64 t265, .int .u8 t283, .slice Ao118 x263003_35.length co118] (0, 0) _ rfl (bp_ BK263) Try.underlying26 rfl (by kernel_rfl)) rfl ?_
         exact ⟨_, by first | rfl | (simp [errW_none, errW_some] <;> rfl) | (simp [*, errW_none, errW_some] <;> rfl), by (with_reducible repeat (first | apply Kd.R_alloc | apply Kd.R_drewN | apply Kd.R_drew)); exact Kd.R_mono (Kd.R_far (p := ⟨gb263, 3, none⟩) (Kd.R_far (p := ⟨gb263, 2, none⟩) (Kd.R_far (p := ⟨gb263, 1, none⟩) (Kd.R_far (p := ⟨gb263, 0, none⟩) (Kd.R_far (p := ⟨gb262, 2, none⟩) (Kd.R_types (Kd.R_types HO_263003.out BK262.out (by decide)) BK263.out (by decide)) (fun _ hk => hk.1.2) (.int .u8 t283)) (fun _ hk => hk.2) (.int .i64 (wrap64 (t273 + t274)))) (fun _ hk => hk.2) (.int .i64 t265)) (fun _ hk => hk.2) (.int .u8 t283)) (fun _ hk => hk.2) (.slice Ao118 x263003_35.length co118)) (fun _ hk => trivial), bh_ HB⟩
      ·rw [if_neg c62] at H
       have c62b0 : (t272 == 4) = false := beq_eq_false_iff_ne.mpr c62
       have c62b1 : (t272 != 4) = true := bne_iff_ne.mpr c62
       by_cases c122 : t275 = true
       ·subst c122
        have H1 : ((plan_status.f kj35 a0_0 a0_1 a0_2 t264 (wrap64 (t265 + 1)) t266 x263003_35).bind fun t284 => (some (t264, wrap64 (t265 + 1), t284, x263003_35))) = some (r1, r2, r3, r4) := by rw [if_pos rfl] at H; exact H
        clear H
        have H := H1
        clear H1
        replace H := Option.bind_eq_some_iff.mp H
        obtain ⟨t284, A1230, H⟩ := H
        replace H : (some (t264, wrap64 (t265 + 1), t284, x263003_35)) = some (r1, r2, r3, r4) := H
        have A123 := Aside0.mk A1230
        clear A1230
        simp only [Option.some.injEq, Prod.mk.injEq] at H
        obtain ⟨rfl, rfl, rfl, rfl⟩ := H
        have hnb124 := NB276_261.out
        have hnc124 := NB261_276.out
        have hnb125 := NB276_262.out
        have hnc125 := NB262_276.out
        have hnb126 := NB276_263.out
        have hnc126 := NB263_276.out
        obtain ⟨hcz127_0, hcz127_1, hcz127_2, hfz127_0, hfz127_1, hfz127_2⟩ := c3_ BK276
        have hnb128 := NB262_261.out
        have hnc128 := NB261_262.out
        have hnb129 := NB262_263.out
        have hnc129 := NB263_262.out
        obtain ⟨hcz130_0, hcz130_1, hcz130_2, hcz130_3, hfz130_0, hfz130_1, hfz130_2, hfz130_3⟩ := c4_ BK262
        have hnb131 := NB261_263.out
        have hnc131 := NB263_261.out
        obtain ⟨hcz132_0, hcz132_1, hcz132_2, hfz132_0, hfz132_1, hfz132_2⟩ := c3_ BK261
        obtain ⟨Ao133, co133, eo133⟩ := Kd.R_slice HO_263003.out
        subst eo133
        go_wp2_with (first | ((with_reducible refine gate_callee (f := 38) rfl ?_); refine gl_ (some 60) rfl rfl Try.func38 (by kernel_rfl) rfl #[.agg #[.int .i64 a0_0, .int .i64 a0_1, .bool a0_2], .agg #[.int .i64 t264, .int .i64 (wrap64 (t265 + 1)), .int .u8 t266, .slice Ao133 x263003_35.length co133]] rfl ?_; (with_reducible refine (plan_status.calls kj35 a0_0 a0_1 a0_2 t264 (wrap64 (t265 + 1)) t266 _ _ x263003_35 t284 _ ?side1 ?side2 A123.out).mono ?_); (case side1 => refine (Kd.R_reads' (e := 33) (base := w.heap.size) (ok := fun k_ => True) (n := x263003_35.length) (c := co133) ?_).2.2; exact (by (with_reducible repeat (first | apply Kd.R_alloc | apply Kd.R_drewN | apply Kd.R_drew)); exact (Kd.R_mono (Kd.R_far (p := ⟨gb262, 1, none⟩) (Kd.R_types HO_263003.out BK262.out (by decide)) (fun _ hk => hk.2) (.int .i64 (wrap64 (t265 + 1)))) (fun _ h_ => h_.1)))); (case side2 => exact (Kd.R_reads' HO_263003.out).2.1); rintro e w134 ⟨rfl, hb⟩; refine ⟨_, rfl, ?_⟩; have n0_ := Aside0.mk (Kd.R_below (by (with_reducible repeat (first | apply Kd.R_alloc | apply Kd.R_drewN | apply Kd.R_drew)); exact (Kd.R_mono (Kd.R_far (p := ⟨gb262, 1, none⟩) (Kd.R_types HO_263003.out BK262.out (by decide)) (fun _ hk => hk.2) (.int .i64 (wrap64 (t265 + 1)))) (fun _ h_ => h_.1))) hb); have n1_ := Aside0.mk (blk_below (g := gb261) (o := .cells #[.int .i64 a0_0, .int .i64 a0_1, .bool a0_2] 23 (0, 0)) (bp_ BK261) hb); have n2_ := Aside0.mk (blk_below (g := gb262) (o := .cells #[.int .i64 t264, .int .i64 (wrap64 (t265 + 1)), .int .u8 t266, .slice Ao133 x263003_35.length co133] 26 (0, 0)) (bp_ BK262) hb); have n3_ := Aside0.mk (blk_below (g := gb263) (o := .cells #[.int .i64 0, .int .i64 0, .int .u8 0, .slice none 0 0] 26 (0, 0)) (bp_ BK263) hb); have n4_ := Aside0.mk (blk_below (g := gb276) (o := .cells #[.int .i64 t272, .int .i64 t273, .int .i64 t274] 29 (0, 0)) (bp_ BK276) hb); have n5_ := bs_ HB hb; clear HO_263003; clear BK261; clear BK262; clear BK263; clear BK276; clear HB; have HO_263003 := n0_; have BK261 := n1_; have BK262 := n2_; have BK263 := n3_; have BK276 := n4_; have HB := n5_; clear n0_ n1_ n2_ n3_ n4_ n5_; (try clear hb); obtain ⟨hcz135_0, hcz135_1, hcz135_2, hcz135_3, hfz135_0, hfz135_1, hfz135_2, hfz135_3⟩ := c4_ BK262; obtain ⟨hcz136_0, hcz136_1, hcz136_2, hcz136_3, hfz136_0, hfz136_1, hfz136_2, hfz136_3⟩ := c4_ BK263))
        refine bodyPost_ret (results_cell_row rfl _ _ gb263 26 #[.int .i64 t264, .int .i64 (wrap64 (t265 + 1)), .int .u8 t284, .slice Ao133 x263003_35.length co133] (0, 0) _ rfl (bp_ BK263) Try.underlying26 rfl (by kernel_rfl)) rfl ?_
        exact ⟨_, by first | rfl | (simp [errW_none, errW_some] <;> rfl) | (simp [*, errW_none, errW_some] <;> rfl), by (with_reducible repeat (first | apply Kd.R_alloc | apply Kd.R_drewN | apply Kd.R_drew)); exact Kd.R_mono (Kd.R_far (p := ⟨gb263, 3, none⟩) (Kd.R_far (p := ⟨gb263, 2, none⟩) (Kd.R_far (p := ⟨gb263, 1, none⟩) (Kd.R_far (p := ⟨gb263, 0, none⟩) (Kd.R_far (p := ⟨gb262, 2, none⟩) (Kd.R_types (Kd.R_types HO_263003.out BK262.out (by decide)) BK263.out (by decide)) (fun _ hk => hk.1.2) (.int .u8 t284)) (fun _ hk => hk.2) (.int .i64 t264)) (fun _ hk => hk.2) (.int .i64 (wrap64 (t265 + 1)))) (fun _ hk => hk.2) (.int .u8 t284)) (fun _ hk => hk.2) (.slice Ao133 x263003_35.length co133)) (fun _ hk => trivial), bh_ HB⟩
       ·replace c122 := Bool.eq_false_iff.mpr c122
        subst c122
        have H1 : ((plan_status.f kj35 a0_0 a0_1 a0_2 t264 t265 t266 x263003_35).bind fun t285 => (some (t264, t265, t285, x263003_35))) = some (r1, r2, r3, r4) := by rw [if_neg (show ¬ (false = true) by decide)] at H; exact H
        clear H
        have H := H1
        clear H1
        replace H := Option.bind_eq_some_iff.mp H
        obtain ⟨t285, A1370, H⟩ := H
        replace H : (some (t264, t265, t285, x263003_35)) = some (r1, r2, r3, r4) := H
        have A137 := Aside0.mk A1370
        clear A1370
        simp only [Option.some.injEq, Prod.mk.injEq] at H
        obtain ⟨rfl, rfl, rfl, rfl⟩ := H
        have hnb138 := NB276_261.out
        have hnc138 := NB261_276.out
        have hnb139 := NB276_262.out
        have hnc139 := NB262_276.out
        have hnb140 := NB276_263.out
        have hnc140 := NB263_276.out
        obtain ⟨hcz141_0, hcz141_1, hcz141_2, hfz141_0, hfz141_1, hfz141_2⟩ := c3_ BK276
        have hnb142 := NB261_262.out
        have hnc142 := NB262_261.out
        have hnb143 := NB261_263.out
        have hnc143 := NB263_261.out
        obtain ⟨hcz144_0, hcz144_1, hcz144_2, hfz144_0, hfz144_1, hfz144_2⟩ := c3_ BK261
        have hnb145 := NB262_263.out
        have hnc145 := NB263_262.out
        obtain ⟨hcz146_0, hcz146_1, hcz146_2, hcz146_3, hfz146_0, hfz146_1, hfz146_2, hfz146_3⟩ := c4_ BK262
        obtain ⟨Ao147, co147, eo147⟩ := Kd.R_slice HO_263003.out
        subst eo147
        go_wp2_with (first | ((with_reducible refine gate_callee (f := 38) rfl ?_); refine gl_ (some 60) rfl rfl Try.func38 (by kernel_rfl) rfl #[.agg #[.int .i64 a0_0, .int .i64 a0_1, .bool a0_2], .agg #[.int .i64 t264, .int .i64 t265, .int .u8 t266, .slice Ao147 x263003_35.length co147]] rfl ?_; (with_reducible refine (plan_status.calls kj35 a0_0 a0_1 a0_2 t264 t265 t266 _ _ x263003_35 t285 _ ?side1 ?side2 A137.out).mono ?_); (case side1 => repeat (first | exact (Kd.R_reads' HO_263003.out).2.2 | (with_reducible refine Kd.C_alloc ?_ _) | (with_reducible refine Kd.C_drewN ?_ _) | (with_reducible refine Kd.C_drew ?_))); (case side2 => exact (Kd.R_reads' HO_263003.out).2.1); rintro e w148 ⟨rfl, hb⟩; refine ⟨_, rfl, ?_⟩; have n0_ := Aside0.mk (Kd.R_below (by (with_reducible repeat (first | apply Kd.R_alloc | apply Kd.R_drewN | apply Kd.R_drew)); exact HO_263003.out) hb); have n1_ := bb_ BK261 hb; have n2_ := bb_ BK262 hb; have n3_ := bb_ BK263 hb; have n4_ := bb_ BK276 hb; have n5_ := bs_ HB hb; clear HO_263003; clear BK261; clear BK262; clear BK263; clear BK276; clear HB; have HO_263003 := n0_; have BK261 := n1_; have BK262 := n2_; have BK263 := n3_; have BK276 := n4_; have HB := n5_; clear n0_ n1_ n2_ n3_ n4_ n5_; (try clear hb); obtain ⟨hcz149_0, hcz149_1, hcz149_2, hcz149_3, hfz149_0, hfz149_1, hfz149_2, hfz149_3⟩ := c4_ BK262; obtain ⟨hcz150_0, hcz150_1, hcz150_2, hcz150_3, hfz150_0, hfz150_1, hfz150_2, hfz150_3⟩ := c4_ BK263))
        refine bodyPost_ret (results_cell_row rfl _ _ gb263 26 #[.int .i64 t264, .int .i64 t265, .int .u8 t285, .slice Ao147 x263003_35.length co147] (0, 0) _ rfl (bp_ BK263) Try.underlying26 rfl (by kernel_rfl)) rfl ?_
        exact ⟨_, by first | rfl | (simp [errW_none, errW_some] <;> rfl) | (simp [*, errW_none, errW_some] <;> rfl), by (with_reducible repeat (first | apply Kd.R_alloc | apply Kd.R_drewN | apply Kd.R_drew)); exact Kd.R_mono (Kd.R_far (p := ⟨gb263, 3, none⟩) (Kd.R_far (p := ⟨gb263, 2, none⟩) (Kd.R_far (p := ⟨gb263, 1, none⟩) (Kd.R_far (p := ⟨gb263, 0, none⟩) (Kd.R_far (p := ⟨gb262, 2, none⟩) (Kd.R_types (Kd.R_types HO_263003.out BK262.out (by decide)) BK263.out (by decide)) (fun _ hk => hk.1.2) (.int .u8 t285)) (fun _ hk => hk.2) (.int .i64 t264)) (fun _ hk => hk.2) (.int .i64 t265)) (fun _ hk => hk.2) (.int .u8 t285)) (fun _ hk => hk.2) (.slice Ao147 x263003_35.length co147)) (fun _ hk => trivial), bh_ HB⟩

end Go.Proofs.Ytnoilinjlelpaaa.P
