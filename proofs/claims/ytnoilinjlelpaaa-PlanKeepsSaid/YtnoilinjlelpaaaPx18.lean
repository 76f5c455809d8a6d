/- Laid by a program of this session's own (wip/wprint.py, over the kit's print.py): functions of the given program as plain Lean functions, and that the program's calls come to their answers. -/
import Derived.Test.YtnoilinjlelpaaaPx0
import Derived.Test.YtnoilinjlelpaaaPx3
import Derived.Test.YtnoilinjlelpaaaPx6
import Derived.Test.YtnoilinjlelpaaaPx11
import Derived.Test.YtnoilinjlelpaaaPx14
import Derived.Test.YtnoilinjlelpaaaPx17
namespace Go.Proofs.Ytnoilinjlelpaaa.P
open Go.RowKit Go.Proofs.YtnoilinjlelpaaaW.PrintWords Go.Proofs.YtnoilinjlelpaaaW.PrintLast Go.Proofs.YtnoilinjlelpaaaW.PrintMore
attribute [local go_sem] max2_int min2_int max_two min_two max_three min_three max_four min_four   -- for this text's walks alone
set_option linter.unusedVariables false
set_option linter.unusedSimpArgs false

/-! ### plan_After: function 13 -/
mutual
def plan_After.j0 : Nat → Int → Bool → Int → Int → Bool → Int → Int → Int → List (S33) → Option (Int × Int × Int × (List (S33)))
  | 0, _, _, _, _, _, _, _, _, _ => none
  | k + 1, x2, x18, x262000, x262001, x262002, x263000, x263001, x263002, x263003 => if x18 = true then (some (x263000, x263001, x263002, x263003)) else ((plan_next.f k x262000 x262001 x262002 x263000 x263001 x263002 x263003).bind fun bt272 => (if bt272.1 = 0 then (plan_After.j1 k bt272.2.2.2 x262000 x262001 x262002 x263000 x263001 x263002 x263003 bt272.1 bt272.2.1 bt272.2.2.1) else ((plan_done.f k x263003 bt272.1 bt272.2.1 bt272.2.2.1 (mn (mx x2 0) bt272.2.2.1)).bind fun t277 => (plan_After.j1 k bt272.2.2.2 x262000 x262001 x262002 x263000 x263001 x263002 t277 bt272.1 bt272.2.1 bt272.2.2.1))))
def plan_After.j1 : Nat → Bool → Int → Int → Bool → Int → Int → Int → List (S33) → Int → Int → Int → Option (Int × Int × Int × (List (S33)))
  | 0, _, _, _, _, _, _, _, _, _, _, _ => none
  | k + 1, x8, x262000, x262001, x262002, x263000, x263001, x263002, x263003, x277000, x277001, x277002 => if x277000 = 4 then (if x262002 = true then (if x8 = true then ((plan_status.f k x262000 x262001 x262002 x277001 (wrap64 (x263001 + 1)) x263002 x263003).bind fun t280 => (some (x277001, wrap64 (x263001 + 1), t280, x263003))) else ((plan_status.f k x262000 x262001 x262002 x277001 x263001 x263002 x263003).bind fun t281 => (some (x277001, x263001, t281, x263003)))) else (if x8 = true then ((plan_status.f k x262000 x262001 x262002 (wrap64 (x277001 + x277002)) (wrap64 (x263001 + 1)) x263002 x263003).bind fun t282 => (some (wrap64 (x277001 + x277002), wrap64 (x263001 + 1), t282, x263003))) else ((plan_status.f k x262000 x262001 x262002 (wrap64 (x277001 + x277002)) x263001 x263002 x263003).bind fun t283 => (some (wrap64 (x277001 + x277002), x263001, t283, x263003))))) else (if x8 = true then ((plan_status.f k x262000 x262001 x262002 x263000 (wrap64 (x263001 + 1)) x263002 x263003).bind fun t284 => (some (x263000, wrap64 (x263001 + 1), t284, x263003))) else ((plan_status.f k x262000 x262001 x262002 x263000 x263001 x263002 x263003).bind fun t285 => (some (x263000, x263001, t285, x263003))))
end
def plan_After.f (k : Nat) (a0_0 : Int) (a0_1 : Int) (a0_2 : Bool) (a1_0 : Int) (a1_1 : Int) (a1_2 : Int) (l1_3 : List (S33)) (a2 : Int) : Option (Int × Int × Int × (List (S33))) := (plan_copied.f a1_0 a1_1 a1_2 l1_3).bind fun bt264 => ((plan_May.f a0_0 a0_1 a0_2).bind fun t270 => (if t270 = true then ((maptext_May.f k bt264.1 bt264.2.1 bt264.2.2.1 bt264.2.2.2).bind fun t271 => (plan_After.j0 k a2 (!t271) a0_0 a0_1 a0_2 bt264.1 bt264.2.1 bt264.2.2.1 bt264.2.2.2)) else (plan_After.j0 k a2 true a0_0 a0_1 a0_2 bt264.1 bt264.2.1 bt264.2.2.1 bt264.2.2.2)))
theorem plan_After.mono_l : ∀ k, (∀ y0 y1 y2 y3 y4 y5 y6 y7 y8, LeO (plan_After.j0 k y0 y1 y2 y3 y4 y5 y6 y7 y8) (plan_After.j0 (k + 1) y0 y1 y2 y3 y4 y5 y6 y7 y8)) ∧ (∀ y0 y1 y2 y3 y4 y5 y6 y7 y8 y9 y10, LeO (plan_After.j1 k y0 y1 y2 y3 y4 y5 y6 y7 y8 y9 y10) (plan_After.j1 (k + 1) y0 y1 y2 y3 y4 y5 y6 y7 y8 y9 y10))
  | 0 => ⟨fun _ _ _ _ _ _ _ _ _ r h => by simp [plan_After.j0] at h, fun _ _ _ _ _ _ _ _ _ _ _ r h => by simp [plan_After.j1] at h⟩
  | k + 1 => by
    obtain ⟨ih0, ih1⟩ := plan_After.mono_l k
    refine ⟨?_, ?_⟩
    · intro y0 y1 y2 y3 y4 y5 y6 y7 y8
      unfold plan_After.j0
      repeat' first
      | (with_reducible exact ih0 _ _ _ _ _ _ _ _ _)
      | (with_reducible exact ih1 _ _ _ _ _ _ _ _ _ _ _)
      | (with_reducible exact maptext_May.mono _ _ _ _ _)
      | (with_reducible exact plan_done.mono _ _ _ _ _ _)
      | (with_reducible exact plan_next.mono _ _ _ _ _ _ _ _)
      | (with_reducible exact plan_status.mono _ _ _ _ _ _ _ _)
      | (with_reducible exact LeO.refl _)
      | (with_reducible exact LeO.none _)
      | (with_reducible refine LeO.ite ?_ ?_)
      | (with_reducible refine LeO.bind ?_ (fun _ => ?_))
      | exact ih0 _ _ _ _ _ _ _ _ _
      | exact ih1 _ _ _ _ _ _ _ _ _ _ _
      | exact maptext_May.mono _ _ _ _ _
      | exact plan_done.mono _ _ _ _ _ _
      | exact plan_next.mono _ _ _ _ _ _ _ _
      | exact plan_status.mono _ _ _ _ _ _ _ _
      | exact LeO.none _
      | refine LeO.ite ?_ ?_
      | refine LeO.bind ?_ (fun _ => ?_)
    · intro y0 y1 y2 y3 y4 y5 y6 y7 y8 y9 y10
      unfold plan_After.j1
      repeat' first
      | (with_reducible exact ih0 _ _ _ _ _ _ _ _ _)
      | (with_reducible exact ih1 _ _ _ _ _ _ _ _ _ _ _)
      | (with_reducible exact maptext_May.mono _ _ _ _ _)
      | (with_reducible exact plan_done.mono _ _ _ _ _ _)
      | (with_reducible exact plan_next.mono _ _ _ _ _ _ _ _)
      | (with_reducible exact plan_status.mono _ _ _ _ _ _ _ _)
      | (with_reducible exact LeO.refl _)
      | (with_reducible exact LeO.none _)
      | (with_reducible refine LeO.ite ?_ ?_)
      | (with_reducible refine LeO.bind ?_ (fun _ => ?_))
      | exact ih0 _ _ _ _ _ _ _ _ _
      | exact ih1 _ _ _ _ _ _ _ _ _ _ _
      | exact maptext_May.mono _ _ _ _ _
      | exact plan_done.mono _ _ _ _ _ _
      | exact plan_next.mono _ _ _ _ _ _ _ _
      | exact plan_status.mono _ _ _ _ _ _ _ _
      | exact LeO.none _
      | refine LeO.ite ?_ ?_
      | refine LeO.bind ?_ (fun _ => ?_)
theorem plan_After.mono : ∀ a0 a1 a2 a3 a4 a5 a6 a7 k, LeO (plan_After.f k a0 a1 a2 a3 a4 a5 a6 a7) (plan_After.f (k + 1) a0 a1 a2 a3 a4 a5 a6 a7) := by
  intro a0 a1 a2 a3 a4 a5 a6 a7 k
  obtain ⟨ih0, ih1⟩ := plan_After.mono_l k
  unfold plan_After.f
  repeat' first
      | (with_reducible exact ih0 _ _ _ _ _ _ _ _ _)
      | (with_reducible exact ih1 _ _ _ _ _ _ _ _ _ _ _)
      | (with_reducible exact maptext_May.mono _ _ _ _ _)
      | (with_reducible exact plan_done.mono _ _ _ _ _ _)
      | (with_reducible exact plan_next.mono _ _ _ _ _ _ _ _)
      | (with_reducible exact plan_status.mono _ _ _ _ _ _ _ _)
      | (with_reducible exact LeO.refl _)
      | (with_reducible exact LeO.none _)
      | (with_reducible refine LeO.ite ?_ ?_)
      | (with_reducible refine LeO.bind ?_ (fun _ => ?_))
      | exact ih0 _ _ _ _ _ _ _ _ _
      | exact ih1 _ _ _ _ _ _ _ _ _ _ _
      | exact maptext_May.mono _ _ _ _ _
      | exact plan_done.mono _ _ _ _ _ _
      | exact plan_next.mono _ _ _ _ _ _ _ _
      | exact plan_status.mono _ _ _ _ _ _ _ _
      | exact LeO.none _
      | refine LeO.ite ?_ ?_
      | refine LeO.bind ?_ (fun _ => ?_)
set_option maxHeartbeats 8000000 in
set_option maxRecDepth 100000 in
theorem plan_After.calls (k : Nat) (a0_0 : Int) (a0_1 : Int) (a0_2 : Bool) (a1_0 : Int) (a1_1 : Int) (a1_2 : Int) (A1_3 : Option Addr) (c1_3 : Nat) (l1_3 : List (S33)) (a2 : Int) (r1 : Int) (r2 : Int) (r3 : Int) (r4 : List (S33)) (w : World) (hr1_3 : Kd.C k33 w A1_3 l1_3.length l1_3) (hc1_3 : l1_3.length ≤ c1_3) (h : plan_After.f k a0_0 a0_1 a0_2 a1_0 a1_1 a1_2 l1_3 a2 = some (r1, r2, r3, r4)) :
    Calls Try.prog 13 #[.agg #[.int .i64 a0_0, .int .i64 a0_1, .bool a0_2], .agg #[.int .i64 a1_0, .int .i64 a1_1, .int .u8 a1_2, .slice A1_3 l1_3.length c1_3], .int .i64 a2] w fun e w' => ∃ v3_ : Value, e = .returned (.agg #[.int .i64 r1, .int .i64 r2, .int .u8 r3, v3_]) ∧ Kd.R k33 33 w' w.heap.size (fun _ => True) v3_ r4 ∧ Below w.heap.size w w' := by
  have hu23 := Try.underlying23
  have hu26 := Try.underlying26
  have hu29 := Try.underlying29
  have HR1_3 := Aside0.mk hr1_3
  have HC1_3 := Aside0.mk hc1_3
  clear hr1_3 hc1_3
  have HB := Aside0.mk (Below.refl w.heap.size w)
  have H : ((plan_copied.f a1_0 a1_1 a1_2 l1_3).bind fun bt264 => ((plan_May.f a0_0 a0_1 a0_2).bind fun t270 => (if t270 = true then ((maptext_May.f k bt264.1 bt264.2.1 bt264.2.2.1 bt264.2.2.2).bind fun t271 => (plan_After.j0 k a2 (!t271) a0_0 a0_1 a0_2 bt264.1 bt264.2.1 bt264.2.2.1 bt264.2.2.2)) else (plan_After.j0 k a2 true a0_0 a0_1 a0_2 bt264.1 bt264.2.1 bt264.2.2.1 bt264.2.2.2)))) = some (r1, r2, r3, r4) := h
  clear h
  replace H := Option.bind_eq_some_iff.mp H
  obtain ⟨⟨t264, t265, t266, t267⟩, A40, H⟩ := H
  replace H : ((plan_May.f a0_0 a0_1 a0_2).bind fun t270 => (if t270 = true then ((maptext_May.f k t264 t265 t266 t267).bind fun t271 => (plan_After.j0 k a2 (!t271) a0_0 a0_1 a0_2 t264 t265 t266 t267)) else (plan_After.j0 k a2 true a0_0 a0_1 a0_2 t264 t265 t266 t267))) = some (r1, r2, r3, r4) := H
  have A4 := Aside0.mk A40
  clear A40
  have HC5 := Aside0.mk H
  clear H
  go_enter Try.func13, Try.ntmps13
  go_upto_region 2 with (first | ((with_reducible refine gate_dst (N := 3) rfl ?_); refine box_e 3 #[.int .i64 a0_0, .int .i64 a0_1, .bool a0_2] 23 ?_; intro gb261 hg w6 hbox hb; have BK261 := Aside0.mk hbox; have GW261 := bg_ HB hg; have GE261 := bg_ HB hg; replace HB := bs_ HB hb; clear hb hbox hg) | ((with_reducible refine gate_dst (N := 4) rfl ?_); refine box_e 4 #[.int .i64 a1_0, .int .i64 a1_1, .int .u8 a1_2, .slice A1_3 l1_3.length c1_3] 26 ?_; intro gb262 hg w7 hbox hb; have BK262 := Aside0.mk hbox; have GW262 := bg_ HB hg; have GE262 := bg_ HB hg; have NB261_262 := bn_ BK261 hg; have NB262_261 := bm_ BK261 hg; replace BK261 := bb_ BK261 hb; replace HB := bs_ HB hb; clear hb hbox hg) | ((with_reducible refine gate_dst (N := 6) rfl ?_); refine box_e 6 #[.int .i64 0, .int .i64 0, .int .u8 0, .slice none 0 0] 26 ?_; intro gb263 hg w8 hbox hb; have BK263 := Aside0.mk hbox; have GW263 := bg_ HB hg; have GE263 := bg_ HB hg; have NB261_263 := bn_ BK261 hg; have NB263_261 := bm_ BK261 hg; have NB262_263 := bn_ BK262 hg; have NB263_262 := bm_ BK262 hg; replace BK261 := bb_ BK261 hb; replace BK262 := bb_ BK262 hb; replace HB := bs_ HB hb; clear hb hbox hg; have hnb9 := NB262_261.out; have hnc9 := NB261_262.out; have hnb10 := NB262_263.out; have hnc10 := NB263_262.out; have hcz11_0 : w8.cell? ⟨gb262, 0, none⟩ = some (.int .i64 a1_0) := (blk_cell BK262.out 0).trans rfl; have hcz11_1 : w8.cell? ⟨gb262, 1, none⟩ = some (.int .i64 a1_1) := (blk_cell BK262.out 1).trans rfl; have hcz11_2 : w8.cell? ⟨gb262, 2, none⟩ = some (.int .u8 a1_2) := (blk_cell BK262.out 2).trans rfl; have hcz11_3 : w8.cell? ⟨gb262, 3, none⟩ = some (.slice A1_3 l1_3.length c1_3) := (blk_cell BK262.out 3).trans rfl; have hfz11_0 := blk_frozen BK262.out 0; have hfz11_1 := blk_frozen BK262.out 1; have hfz11_2 := blk_frozen BK262.out 2; have hfz11_3 := blk_frozen BK262.out 3) | ((with_reducible refine gate_callee (f := 36) rfl ?_); refine gl_ (some 10) rfl rfl Try.func36 (by kernel_rfl) rfl #[.agg #[.int .i64 a1_0, .int .i64 a1_1, .int .u8 a1_2, .slice A1_3 l1_3.length c1_3]] rfl ?_; (with_reducible refine (plan_copied.calls a1_0 a1_1 a1_2 _ _ l1_3 t264 t265 t266 t267 _ ?side1 ?side2 A4.out).mono ?_); (case side1 => exact cb_ HR1_3 HB); (case side2 => exact HC1_3.out); rintro e w12 ⟨v268, rfl, ho0, hb⟩; refine ⟨_, rfl, ?_⟩; have HO269 := Aside0.mk (Kd.R_lower ho0 (below_size (bh_ HB))); replace BK261 := bb_ BK261 hb; replace BK262 := bb_ BK262 hb; replace BK263 := bb_ BK263 hb; replace HB := bs_ HB hb; (try clear hb); (try clear hb2); (try clear hk); (try clear hi); (try clear ho0); have hcz13_0 : w12.cell? ⟨gb262, 0, none⟩ = some (.int .i64 a1_0) := (blk_cell BK262.out 0).trans rfl; have hcz13_1 : w12.cell? ⟨gb262, 1, none⟩ = some (.int .i64 a1_1) := (blk_cell BK262.out 1).trans rfl; have hcz13_2 : w12.cell? ⟨gb262, 2, none⟩ = some (.int .u8 a1_2) := (blk_cell BK262.out 2).trans rfl; have hcz13_3 : w12.cell? ⟨gb262, 3, none⟩ = some (.slice A1_3 l1_3.length c1_3) := (blk_cell BK262.out 3).trans rfl; have hfz13_0 := blk_frozen BK262.out 0; have hfz13_1 := blk_frozen BK262.out 1; have hfz13_2 := blk_frozen BK262.out 2; have hfz13_3 := blk_frozen BK262.out 3; obtain ⟨Ao14, co14, eo14⟩ := Kd.R_slice HO269.out; subst eo14))
  (try simp only [Act.put, List.setIfInBounds_toArray, List.set_cons_zero, List.set_cons_succ])
  go_cut [18] (fun v18 wc => ∃ (kq : Nat) (x18_4 : Bool), v18 = .bool x18_4 ∧ Aside0 (plan_After.j0 kq a2 x18_4 a0_0 a0_1 a0_2 t264 t265 t266 t267 = some (r1, r2, r3, r4)) ∧ Aside0 (kq ≤ k) ∧ Aside0 (Kd.R k33 33 wc w.heap.size (fun _ => True) (.slice Ao14 t267.length co14) t267) ∧ Aside0 (wc.heap[gb261]? = some (.cells #[.int .i64 a0_0, .int .i64 a0_1, .bool a0_2] 23 (0, 0))) ∧ Aside0 (wc.heap[gb262]? = some (.cells #[.int .i64 t264, .int .i64 t265, .int .u8 t266, (.slice Ao14 t267.length co14)] 26 (0, 0))) ∧ Aside0 (wc.heap[gb263]? = some (.cells #[.int .i64 0, .int .i64 0, .int .u8 0, (.slice none 0 0)] 26 (0, 0))) ∧ Aside0 (Below w.heap.size w wc))
  case first =>
    have H := HC5.out
    clear HC5
    replace H := Option.bind_eq_some_iff.mp H
    obtain ⟨t270, A150, H⟩ := H
    replace H : (if t270 = true then ((maptext_May.f k t264 t265 t266 t267).bind fun t271 => (plan_After.j0 k a2 (!t271) a0_0 a0_1 a0_2 t264 t265 t266 t267)) else (plan_After.j0 k a2 true a0_0 a0_1 a0_2 t264 t265 t266 t267)) = some (r1, r2, r3, r4) := H
    have A15 := Aside0.mk A150
    clear A150
    by_cases c16 : t270 = true
    · subst c16
      have H1 : ((maptext_May.f k t264 t265 t266 t267).bind fun t271 => (plan_After.j0 k a2 (!t271) a0_0 a0_1 a0_2 t264 t265 t266 t267)) = some (r1, r2, r3, r4) := by rw [if_pos rfl] at H; exact H
      clear H
      have H := H1
      clear H1
      replace H := Option.bind_eq_some_iff.mp H
      obtain ⟨t271, A170, H⟩ := H
      replace H : (plan_After.j0 k a2 (!t271) a0_0 a0_1 a0_2 t264 t265 t266 t267) = some (r1, r2, r3, r4) := H
      have A17 := Aside0.mk A170
      clear A170
      have H' := Aside0.mk H
      clear H
      have hnb18 := NB261_262.out
      have hnc18 := NB262_261.out
      have hnb19 := NB261_263.out
      have hnc19 := NB263_261.out
      have hcz20_0 : w12.cell? ⟨gb261, 0, none⟩ = some (.int .i64 a0_0) := (blk_cell BK261.out 0).trans rfl
      have hcz20_1 : w12.cell? ⟨gb261, 1, none⟩ = some (.int .i64 a0_1) := (blk_cell BK261.out 1).trans rfl
      have hcz20_2 : w12.cell? ⟨gb261, 2, none⟩ = some (.bool a0_2) := (blk_cell BK261.out 2).trans rfl
      have hfz20_0 := blk_frozen BK261.out 0
      have hfz20_1 := blk_frozen BK261.out 1
      have hfz20_2 := blk_frozen BK261.out 2
      go_wp2_with (first | ((with_reducible refine gate_callee (f := 14) rfl ?_); refine gl_ (some 12) rfl rfl Try.func14 (by kernel_rfl) rfl #[.agg #[.int .i64 a0_0, .int .i64 a0_1, .bool a0_2]] rfl ?_; (with_reducible refine (plan_May.calls a0_0 a0_1 a0_2 true _ A15.out).mono ?_); rintro e w21 ⟨rfl, hb⟩; refine ⟨_, rfl, ?_⟩; have n0_ := Aside0.mk (Kd.R_below (by (with_reducible repeat (first | apply Kd.R_alloc | apply Kd.R_drewN | apply Kd.R_drew)); exact (Kd.R_mono (Kd.R_far (p := ⟨gb262, 3, none⟩) (Kd.R_far (p := ⟨gb262, 2, none⟩) (Kd.R_far (p := ⟨gb262, 1, none⟩) (Kd.R_far (p := ⟨gb262, 0, none⟩) (Kd.R_types HO269.out BK262.out (by decide)) (fun _ hk => hk.2) (.int .i64 t264)) (fun _ hk => hk.2) (.int .i64 t265)) (fun _ hk => hk.2) (.int .u8 t266)) (fun _ hk => hk.2) (.slice Ao14 t267.length co14)) (fun _ h_ => h_.1))) hb); have n1_ := Aside0.mk (blk_below (g := gb261) (o := .cells #[.int .i64 a0_0, .int .i64 a0_1, .bool a0_2] 23 (0, 0)) (bp_ BK261) hb); have n2_ := Aside0.mk (blk_below (g := gb262) (o := .cells #[.int .i64 t264, .int .i64 t265, .int .u8 t266, .slice Ao14 t267.length co14] 26 (0, 0)) (bp_ BK262) hb); have n3_ := Aside0.mk (blk_below (g := gb263) (o := .cells #[.int .i64 0, .int .i64 0, .int .u8 0, .slice none 0 0] 26 (0, 0)) (bp_ BK263) hb); have n4_ := bs_ HB hb; clear HO269; clear BK261; clear BK262; clear BK263; clear HB; have HO269 := n0_; have BK261 := n1_; have BK262 := n2_; have BK263 := n3_; have HB := n4_; clear n0_ n1_ n2_ n3_ n4_; (try clear hb); (try clear hb2); (try clear hk); (try clear hi); have hnb22 := NB262_263.out; have hnc22 := NB263_262.out; have hcz23_0 : w21.cell? ⟨gb262, 0, none⟩ = some (.int .i64 t264) := (blk_cell BK262.out 0).trans rfl; have hcz23_1 : w21.cell? ⟨gb262, 1, none⟩ = some (.int .i64 t265) := (blk_cell BK262.out 1).trans rfl; have hcz23_2 : w21.cell? ⟨gb262, 2, none⟩ = some (.int .u8 t266) := (blk_cell BK262.out 2).trans rfl; have hcz23_3 : w21.cell? ⟨gb262, 3, none⟩ = some (.slice Ao14 t267.length co14) := (blk_cell BK262.out 3).trans rfl; have hfz23_0 := blk_frozen BK262.out 0; have hfz23_1 := blk_frozen BK262.out 1; have hfz23_2 := blk_frozen BK262.out 2; have hfz23_3 := blk_frozen BK262.out 3) | (go_at_call 18; (with_reducible refine (maptext_May.calls k t264 t265 t266 _ _ t267 t271 _ ?side1 ?side2 A17.out).mono ?_); (case side1 => repeat (first | exact (Kd.R_reads' HO269.out).2.2 | (with_reducible refine Kd.C_alloc ?_ _) | (with_reducible refine Kd.C_drewN ?_ _) | (with_reducible refine Kd.C_drew ?_))); (case side2 => exact (Kd.R_reads' HO269.out).2.1); rintro e w24 ⟨rfl, hb⟩; have n0_ := Aside0.mk (Kd.R_below (by (with_reducible repeat (first | apply Kd.R_alloc | apply Kd.R_drewN | apply Kd.R_drew)); exact HO269.out) hb); have n1_ := bb_ BK261 hb; have n2_ := bb_ BK262 hb; have n3_ := bb_ BK263 hb; have n4_ := bs_ HB hb; clear HO269; clear BK261; clear BK262; clear BK263; clear HB; have HO269 := n0_; have BK261 := n1_; have BK262 := n2_; have BK263 := n3_; have HB := n4_; clear n0_ n1_ n2_ n3_ n4_; (try clear hb); (try clear hb2); (try clear hk); (try clear hi)))
      go_meet
      case rel => exact ⟨_, (!t271), (by first | rfl | (simp; done) | (simp [*]; done)), H', ⟨by first | omega | exact Nat.le_refl _⟩, ⟨by (with_reducible repeat (first | apply Kd.R_alloc | apply Kd.R_drewN | apply Kd.R_drew)); exact HO269.out⟩, ⟨by (with_reducible repeat (first | refine blk_drewN ?_ _ | refine blk_drew ?_ | refine blk_alloc ?_ _)); exact BK261.out⟩, ⟨by (with_reducible repeat (first | refine blk_drewN ?_ _ | refine blk_drew ?_ | refine blk_alloc ?_ _)); exact BK262.out⟩, ⟨by (with_reducible repeat (first | refine blk_drewN ?_ _ | refine blk_drew ?_ | refine blk_alloc ?_ _)); exact BK263.out⟩, ⟨by repeat (first | (with_reducible first | exact HB.out | apply below_alloc | apply pw_below_drewN | apply below_drew1 | refine below_set ?_ GE261.out | refine below_set ?_ GE262.out | refine below_set ?_ GE263.out) | exact HB.out)⟩⟩
    · replace c16 := Bool.eq_false_iff.mpr c16
      subst c16
      have H1 : (plan_After.j0 k a2 true a0_0 a0_1 a0_2 t264 t265 t266 t267) = some (r1, r2, r3, r4) := by rw [if_neg (show ¬ (false = true) by decide)] at H; exact H
      clear H
      have H := H1
      clear H1
      have H' := Aside0.mk H
      clear H
      have hnb25 := NB261_262.out
      have hnc25 := NB262_261.out
      have hnb26 := NB261_263.out
      have hnc26 := NB263_261.out
      have hcz27_0 : w12.cell? ⟨gb261, 0, none⟩ = some (.int .i64 a0_0) := (blk_cell BK261.out 0).trans rfl
      have hcz27_1 : w12.cell? ⟨gb261, 1, none⟩ = some (.int .i64 a0_1) := (blk_cell BK261.out 1).trans rfl
      have hcz27_2 : w12.cell? ⟨gb261, 2, none⟩ = some (.bool a0_2) := (blk_cell BK261.out 2).trans rfl
      have hfz27_0 := blk_frozen BK261.out 0
      have hfz27_1 := blk_frozen BK261.out 1
      have hfz27_2 := blk_frozen BK261.out 2
      go_wp2_with (first | ((with_reducible refine gate_callee (f := 14) rfl ?_); refine gl_ (some 12) rfl rfl Try.func14 (by kernel_rfl) rfl #[.agg #[.int .i64 a0_0, .int .i64 a0_1, .bool a0_2]] rfl ?_; (with_reducible refine (plan_May.calls a0_0 a0_1 a0_2 false _ A15.out).mono ?_); rintro e w28 ⟨rfl, hb⟩; refine ⟨_, rfl, ?_⟩; have n0_ := Aside0.mk (Kd.R_below (by (with_reducible repeat (first | apply Kd.R_alloc | apply Kd.R_drewN | apply Kd.R_drew)); exact (Kd.R_mono (Kd.R_far (p := ⟨gb262, 3, none⟩) (Kd.R_far (p := ⟨gb262, 2, none⟩) (Kd.R_far (p := ⟨gb262, 1, none⟩) (Kd.R_far (p := ⟨gb262, 0, none⟩) (Kd.R_types HO269.out BK262.out (by decide)) (fun _ hk => hk.2) (.int .i64 t264)) (fun _ hk => hk.2) (.int .i64 t265)) (fun _ hk => hk.2) (.int .u8 t266)) (fun _ hk => hk.2) (.slice Ao14 t267.length co14)) (fun _ h_ => h_.1))) hb); have n1_ := Aside0.mk (blk_below (g := gb261) (o := .cells #[.int .i64 a0_0, .int .i64 a0_1, .bool a0_2] 23 (0, 0)) (bp_ BK261) hb); have n2_ := Aside0.mk (blk_below (g := gb262) (o := .cells #[.int .i64 t264, .int .i64 t265, .int .u8 t266, .slice Ao14 t267.length co14] 26 (0, 0)) (bp_ BK262) hb); have n3_ := Aside0.mk (blk_below (g := gb263) (o := .cells #[.int .i64 0, .int .i64 0, .int .u8 0, .slice none 0 0] 26 (0, 0)) (bp_ BK263) hb); have n4_ := bs_ HB hb; clear HO269; clear BK261; clear BK262; clear BK263; clear HB; have HO269 := n0_; have BK261 := n1_; have BK262 := n2_; have BK263 := n3_; have HB := n4_; clear n0_ n1_ n2_ n3_ n4_; (try clear hb); (try clear hb2); (try clear hk); (try clear hi)))
      go_meet
      case rel => exact ⟨_, (true), (by first | rfl | (simp; done) | (simp [*]; done)), H', ⟨by first | omega | exact Nat.le_refl _⟩, ⟨by (with_reducible repeat (first | apply Kd.R_alloc | apply Kd.R_drewN | apply Kd.R_drew)); exact HO269.out⟩, ⟨by (with_reducible repeat (first | refine blk_drewN ?_ _ | refine blk_drew ?_ | refine blk_alloc ?_ _)); exact BK261.out⟩, ⟨by (with_reducible repeat (first | refine blk_drewN ?_ _ | refine blk_drew ?_ | refine blk_alloc ?_ _)); exact BK262.out⟩, ⟨by (with_reducible repeat (first | refine blk_drewN ?_ _ | refine blk_drew ?_ | refine blk_alloc ?_ _)); exact BK263.out⟩, ⟨by repeat (first | (with_reducible first | exact HB.out | apply below_alloc | apply pw_below_drewN | apply below_drew1 | refine below_set ?_ GE261.out | refine below_set ?_ GE262.out | refine below_set ?_ GE263.out) | exact HB.out)⟩⟩
  case rest =>
    clear HC5
    try clear c1
    try clear c2
    try clear p2
    try clear c3
    try clear c9
    try clear c10
    try clear c13
    try clear c14
    try clear c16
    try clear c18
    try clear c19
    try clear c22
    try clear c25
    try clear c26
    try clear hcz11_0
    try clear hcz11_1
    try clear hcz11_2
    try clear hcz11_3
    try clear hcz13_0
    try clear hcz13_1
    try clear hcz13_2
    try clear hcz13_3
    try clear hcz20_0
    try clear hcz20_1
    try clear hcz20_2
    try clear hcz23_0
    try clear hcz23_1
    try clear hcz23_2
    try clear hcz23_3
    try clear hcz27_0
    try clear hcz27_1
    try clear hcz27_2
    try clear hfz11_0
    try clear hfz11_1
    try clear hfz11_2
    try clear hfz11_3
    try clear hfz13_0
    try clear hfz13_1
    try clear hfz13_2
    try clear hfz13_3
    try clear hfz20_0
    try clear hfz20_1
    try clear hfz20_2
    try clear hfz23_0
    try clear hfz23_1
    try clear hfz23_2
    try clear hfz23_3
    try clear hfz27_0
    try clear hfz27_1
    try clear hfz27_2
    obtain ⟨kq, x18_4, rfl, HA, HJ4, HO_263003, BK261, BK262, BK263, HB⟩ := hcut
    cases kq with
    | zero => exact absurd HA.out (by simp [plan_After.j0])
    | succ kj4 =>
      have H := HA.out
      clear HA
      simp only [plan_After.j0] at H
      by_cases c29 : x18_4 = true
      · subst c29
        have H1 : (some (t264, t265, t266, t267)) = some (r1, r2, r3, r4) := by rw [if_pos rfl] at H; exact H
        clear H
        have H := H1
        clear H1
        simp only [Option.some.injEq, Prod.mk.injEq] at H
        obtain ⟨rfl, rfl, rfl, rfl⟩ := H
        have hnb30 := NB262_261.out
        have hnc30 := NB261_262.out
        have hnb31 := NB262_263.out
        have hnc31 := NB263_262.out
        have hcz32_0 : wc.cell? ⟨gb262, 0, none⟩ = some (.int .i64 t264) := (blk_cell BK262.out 0).trans rfl
        have hcz32_1 : wc.cell? ⟨gb262, 1, none⟩ = some (.int .i64 t265) := (blk_cell BK262.out 1).trans rfl
        have hcz32_2 : wc.cell? ⟨gb262, 2, none⟩ = some (.int .u8 t266) := (blk_cell BK262.out 2).trans rfl
        have hcz32_3 : wc.cell? ⟨gb262, 3, none⟩ = some (.slice Ao14 t267.length co14) := (blk_cell BK262.out 3).trans rfl
        have hfz32_0 := blk_frozen BK262.out 0
        have hfz32_1 := blk_frozen BK262.out 1
        have hfz32_2 := blk_frozen BK262.out 2
        have hfz32_3 := blk_frozen BK262.out 3
        have hnb33 := NB263_261.out
        have hnc33 := NB261_263.out
        have hcz34_0 : wc.cell? ⟨gb263, 0, none⟩ = some (.int .i64 0) := (blk_cell BK263.out 0).trans rfl
        have hcz34_1 : wc.cell? ⟨gb263, 1, none⟩ = some (.int .i64 0) := (blk_cell BK263.out 1).trans rfl
        have hcz34_2 : wc.cell? ⟨gb263, 2, none⟩ = some (.int .u8 0) := (blk_cell BK263.out 2).trans rfl
        have hcz34_3 : wc.cell? ⟨gb263, 3, none⟩ = some (.slice none 0 0) := (blk_cell BK263.out 3).trans rfl
        have hfz34_0 := blk_frozen BK263.out 0
        have hfz34_1 := blk_frozen BK263.out 1
        have hfz34_2 := blk_frozen BK263.out 2
        have hfz34_3 := blk_frozen BK263.out 3
        go_wp2
        refine bodyPost_ret (results_cell_row rfl _ _ gb263 26 #[.int .i64 t264, .int .i64 t265, .int .u8 t266, .slice Ao14 t267.length co14] (0, 0) _ rfl (bp_ BK263) Try.underlying26 rfl (by kernel_rfl)) rfl ?_
        exact ⟨_, by first | rfl | (simp [errW_none, errW_some] <;> rfl) | (simp [*, errW_none, errW_some] <;> rfl), by (with_reducible repeat (first | apply Kd.R_alloc | apply Kd.R_drewN | apply Kd.R_drew)); exact Kd.R_mono (Kd.R_far (p := ⟨gb263, 3, none⟩) (Kd.R_far (p := ⟨gb263, 2, none⟩) (Kd.R_far (p := ⟨gb263, 1, none⟩) (Kd.R_far (p := ⟨gb263, 0, none⟩) (Kd.R_types HO_263003.out BK263.out (by decide)) (fun _ hk => hk.2) (.int .i64 t264)) (fun _ hk => hk.2) (.int .i64 t265)) (fun _ hk => hk.2) (.int .u8 t266)) (fun _ hk => hk.2) (.slice Ao14 t267.length co14)) (fun _ hk => trivial), bh_ HB⟩
      · replace c29 := Bool.eq_false_iff.mpr c29
        subst c29
        have H1 : ((plan_next.f kj4 a0_0 a0_1 a0_2 t264 t265 t266 t267).bind fun bt272 => (if bt272.1 = 0 then (plan_After.j1 kj4 bt272.2.2.2 a0_0 a0_1 a0_2 t264 t265 t266 t267 bt272.1 bt272.2.1 bt272.2.2.1) else ((plan_done.f kj4 t267 bt272.1 bt272.2.1 bt272.2.2.1 (mn (mx a2 0) bt272.2.2.1)).bind fun t277 => (plan_After.j1 kj4 bt272.2.2.2 a0_0 a0_1 a0_2 t264 t265 t266 t277 bt272.1 bt272.2.1 bt272.2.2.1)))) = some (r1, r2, r3, r4) := by rw [if_neg (show ¬ (false = true) by decide)] at H; exact H
        clear H
        have H := H1
        clear H1
        replace H := Option.bind_eq_some_iff.mp H
        obtain ⟨⟨t272, t273, t274, t275⟩, A350, H⟩ := H
        replace H : (if t272 = 0 then (plan_After.j1 kj4 t275 a0_0 a0_1 a0_2 t264 t265 t266 t267 t272 t273 t274) else ((plan_done.f kj4 t267 t272 t273 t274 (mn (mx a2 0) t274)).bind fun t277 => (plan_After.j1 kj4 t275 a0_0 a0_1 a0_2 t264 t265 t266 t277 t272 t273 t274))) = some (r1, r2, r3, r4) := H
        have A35 := Aside0.mk A350
        clear A350
        have HC36 := Aside0.mk H
        clear H
        have hnb37 := NB261_262.out
        have hnc37 := NB262_261.out
        have hnb38 := NB261_263.out
        have hnc38 := NB263_261.out
        have hcz39_0 : wc.cell? ⟨gb261, 0, none⟩ = some (.int .i64 a0_0) := (blk_cell BK261.out 0).trans rfl
        have hcz39_1 : wc.cell? ⟨gb261, 1, none⟩ = some (.int .i64 a0_1) := (blk_cell BK261.out 1).trans rfl
        have hcz39_2 : wc.cell? ⟨gb261, 2, none⟩ = some (.bool a0_2) := (blk_cell BK261.out 2).trans rfl
        have hfz39_0 := blk_frozen BK261.out 0
        have hfz39_1 := blk_frozen BK261.out 1
        have hfz39_2 := blk_frozen BK261.out 2
        have hnb40 := NB262_263.out
        have hnc40 := NB263_262.out
        have hcz41_0 : wc.cell? ⟨gb262, 0, none⟩ = some (.int .i64 t264) := (blk_cell BK262.out 0).trans rfl
        have hcz41_1 : wc.cell? ⟨gb262, 1, none⟩ = some (.int .i64 t265) := (blk_cell BK262.out 1).trans rfl
        have hcz41_2 : wc.cell? ⟨gb262, 2, none⟩ = some (.int .u8 t266) := (blk_cell BK262.out 2).trans rfl
        have hcz41_3 : wc.cell? ⟨gb262, 3, none⟩ = some (.slice Ao14 t267.length co14) := (blk_cell BK262.out 3).trans rfl
        have hfz41_0 := blk_frozen BK262.out 0
        have hfz41_1 := blk_frozen BK262.out 1
        have hfz41_2 := blk_frozen BK262.out 2
        have hfz41_3 := blk_frozen BK262.out 3
        go_upto_if 28 with (first | ((with_reducible refine gate_callee (f := 35) rfl ?_); refine gl_ (some 23) rfl rfl Try.func35 (by kernel_rfl) rfl #[.agg #[.int .i64 a0_0, .int .i64 a0_1, .bool a0_2], .agg #[.int .i64 t264, .int .i64 t265, .int .u8 t266, .slice Ao14 t267.length co14]] rfl ?_; (with_reducible refine (plan_next.calls kj4 a0_0 a0_1 a0_2 t264 t265 t266 _ _ t267 t272 t273 t274 t275 _ ?side1 ?side2 A35.out).mono ?_); (case side1 => repeat (first | exact (Kd.R_reads' HO_263003.out).2.2 | (with_reducible refine Kd.C_alloc ?_ _) | (with_reducible refine Kd.C_drewN ?_ _) | (with_reducible refine Kd.C_drew ?_))); (case side2 => exact (Kd.R_reads' HO_263003.out).2.1); rintro e w42 ⟨rfl, hb⟩; refine ⟨_, rfl, ?_⟩; have n0_ := Aside0.mk (Kd.R_below (by (with_reducible repeat (first | apply Kd.R_alloc | apply Kd.R_drewN | apply Kd.R_drew)); exact HO_263003.out) hb); have n1_ := bb_ BK261 hb; have n2_ := bb_ BK262 hb; have n3_ := bb_ BK263 hb; have n4_ := bs_ HB hb; clear HO_263003; clear BK261; clear BK262; clear BK263; clear HB; have HO_263003 := n0_; have BK261 := n1_; have BK262 := n2_; have BK263 := n3_; have HB := n4_; clear n0_ n1_ n2_ n3_ n4_; (try clear hb); (try clear hb2); (try clear hk); (try clear hi)) | ((with_reducible refine gate_dst (N := 7) rfl ?_); refine box_e 7 #[.int .i64 0, .int .i64 0, .int .i64 0] 29 ?_; intro gb276 hg w43 hbox hb; have n0_ := Aside0.mk (Kd.R_below (by (with_reducible repeat (first | apply Kd.R_alloc | apply Kd.R_drewN | apply Kd.R_drew)); exact HO_263003.out) hb); have n1_ := bb_ BK261 hb; have n2_ := bb_ BK262 hb; have n3_ := bb_ BK263 hb; have n4_ := bs_ HB hb; have n5_ := Aside0.mk hbox; have n6_ := bg_ HB hg; have n7_ := bg_ HB hg; have n8_ := bn_ BK261 hg; have n9_ := bm_ BK261 hg; have n10_ := bn_ BK262 hg; have n11_ := bm_ BK262 hg; have n12_ := bn_ BK263 hg; have n13_ := bm_ BK263 hg; clear HO_263003; clear BK261; clear BK262; clear BK263; clear HB; have HO_263003 := n0_; have BK261 := n1_; have BK262 := n2_; have BK263 := n3_; have HB := n4_; have BK276 := n5_; have GW276 := n6_; have GE276 := n7_; have NB261_276 := n8_; have NB276_261 := n9_; have NB262_276 := n10_; have NB276_262 := n11_; have NB263_276 := n12_; have NB276_263 := n13_; clear n0_ n1_ n2_ n3_ n4_ n5_ n6_ n7_ n8_ n9_ n10_ n11_ n12_ n13_; clear hb hbox hg; have hnb44 := NB276_261.out; have hnc44 := NB261_276.out; have hnb45 := NB276_262.out; have hnc45 := NB262_276.out; have hnb46 := NB276_263.out; have hnc46 := NB263_276.out; have hcz47_0 : w43.cell? ⟨gb276, 0, none⟩ = some (.int .i64 0) := (blk_cell BK276.out 0).trans rfl; have hcz47_1 : w43.cell? ⟨gb276, 1, none⟩ = some (.int .i64 0) := (blk_cell BK276.out 1).trans rfl; have hcz47_2 : w43.cell? ⟨gb276, 2, none⟩ = some (.int .i64 0) := (blk_cell BK276.out 2).trans rfl; have hfz47_0 := blk_frozen BK276.out 0; have hfz47_1 := blk_frozen BK276.out 1; have hfz47_2 := blk_frozen BK276.out 2))
        (try simp only [Act.put, List.setIfInBounds_toArray, List.set_cons_zero, List.set_cons_succ])
        go_cut [] (fun wc => ∃ (kq : Nat) (x263003_35 : List (S33)) (u263003 : Value), Aside0 (plan_After.j1 kq t275 a0_0 a0_1 a0_2 t264 t265 t266 x263003_35 t272 t273 t274 = some (r1, r2, r3, r4)) ∧ Aside0 (kq ≤ kj4) ∧ Aside0 (Kd.R k33 33 wc w.heap.size (fun _ => True) u263003 x263003_35) ∧ Aside0 (wc.heap[gb261]? = some (.cells #[.int .i64 a0_0, .int .i64 a0_1, .bool a0_2] 23 (0, 0))) ∧ Aside0 (wc.heap[gb262]? = some (.cells #[.int .i64 t264, .int .i64 t265, .int .u8 t266, u263003] 26 (0, 0))) ∧ Aside0 (wc.heap[gb263]? = some (.cells #[.int .i64 0, .int .i64 0, .int .u8 0, (.slice none 0 0)] 26 (0, 0))) ∧ Aside0 (wc.heap[gb276]? = some (.cells #[.int .i64 t272, .int .i64 t273, .int .i64 t274] 29 (0, 0))) ∧ Aside0 (Below w.heap.size w wc))
        case first =>
          have H := HC36.out
          clear HC36
          by_cases c48 : t272 = 0
          · rw [if_pos c48] at H
            have c48b0 : (t272 == 0) = true := beq_iff_eq.mpr c48
            have c48b1 : (t272 != 0) = false := bne_eq_false_iff_eq.mpr c48
            clear c48
            (first | rw [c48b0] | (simp only [i64_w, i32_w]; rw [c48b0]) | skip)
            have H' := Aside0.mk H
            clear H
            go_wp2
            go_meet
            case rel => exact ⟨_, (t267), (.slice Ao14 t267.length co14), H', ⟨by have := HJ4.out; first | omega | exact Nat.le_refl _⟩, ⟨by (with_reducible repeat (first | apply Kd.R_alloc | apply Kd.R_drewN | apply Kd.R_drew)); exact Kd.R_mono (Kd.R_far (p := ⟨gb276, 2, none⟩) (Kd.R_far (p := ⟨gb276, 1, none⟩) (Kd.R_far (p := ⟨gb276, 0, none⟩) (Kd.R_types HO_263003.out BK276.out (by decide)) (fun _ hk => hk.2) (.int .i64 t272)) (fun _ hk => hk.2) (.int .i64 t273)) (fun _ hk => hk.2) (.int .i64 t274)) (fun _ hk => trivial)⟩, ⟨by (with_reducible repeat (first | refine blk_drewN ?_ _ | refine blk_drew ?_ | refine blk_alloc ?_ _)); refine blk_far ?_ NB261_276.out _; (with_reducible repeat (first | refine blk_drewN ?_ _ | refine blk_drew ?_ | refine blk_alloc ?_ _)); refine blk_far ?_ NB261_276.out _; (with_reducible repeat (first | refine blk_drewN ?_ _ | refine blk_drew ?_ | refine blk_alloc ?_ _)); refine blk_far ?_ NB261_276.out _; (with_reducible repeat (first | refine blk_drewN ?_ _ | refine blk_drew ?_ | refine blk_alloc ?_ _)); exact BK261.out⟩, ⟨by (with_reducible repeat (first | refine blk_drewN ?_ _ | refine blk_drew ?_ | refine blk_alloc ?_ _)); refine blk_far ?_ NB262_276.out _; (with_reducible repeat (first | refine blk_drewN ?_ _ | refine blk_drew ?_ | refine blk_alloc ?_ _)); refine blk_far ?_ NB262_276.out _; (with_reducible repeat (first | refine blk_drewN ?_ _ | refine blk_drew ?_ | refine blk_alloc ?_ _)); refine blk_far ?_ NB262_276.out _; (with_reducible repeat (first | refine blk_drewN ?_ _ | refine blk_drew ?_ | refine blk_alloc ?_ _)); exact BK262.out⟩, ⟨by (with_reducible repeat (first | refine blk_drewN ?_ _ | refine blk_drew ?_ | refine blk_alloc ?_ _)); refine blk_far ?_ NB263_276.out _; (with_reducible repeat (first | refine blk_drewN ?_ _ | refine blk_drew ?_ | refine blk_alloc ?_ _)); refine blk_far ?_ NB263_276.out _; (with_reducible repeat (first | refine blk_drewN ?_ _ | refine blk_drew ?_ | refine blk_alloc ?_ _)); refine blk_far ?_ NB263_276.out _; (with_reducible repeat (first | refine blk_drewN ?_ _ | refine blk_drew ?_ | refine blk_alloc ?_ _)); exact BK263.out⟩, ⟨by (with_reducible repeat (first | refine blk_drewN ?_ _ | refine blk_drew ?_ | refine blk_alloc ?_ _)); refine blk_put (cs := #[.int .i64 t272, .int .i64 t273, .int .i64 0]) ?_ 2 _ rfl; (with_reducible repeat (first | refine blk_drewN ?_ _ | refine blk_drew ?_ | refine blk_alloc ?_ _)); refine blk_put (cs := #[.int .i64 t272, .int .i64 0, .int .i64 0]) ?_ 1 _ rfl; (with_reducible repeat (first | refine blk_drewN ?_ _ | refine blk_drew ?_ | refine blk_alloc ?_ _)); refine blk_put (cs := #[.int .i64 0, .int .i64 0, .int .i64 0]) ?_ 0 _ rfl; (with_reducible repeat (first | refine blk_drewN ?_ _ | refine blk_drew ?_ | refine blk_alloc ?_ _)); exact BK276.out⟩, ⟨by repeat (first | (with_reducible first | exact HB.out | apply below_alloc | apply pw_below_drewN | apply below_drew1 | refine below_set ?_ GE261.out | refine below_set ?_ GE262.out | refine below_set ?_ GE263.out | refine below_set ?_ GE276.out) | exact HB.out)⟩⟩
          · rw [if_neg c48] at H
            have c48b0 : (t272 == 0) = false := beq_eq_false_iff_ne.mpr c48
            have c48b1 : (t272 != 0) = true := bne_iff_ne.mpr c48
            (first | rw [c48b0] | (simp only [i64_w, i32_w]; rw [c48b0]) | skip)
            obtain ⟨ji49, hji49⟩ : ∃ j_ : Int, (mx a2 0) = j_ := ⟨_, rfl⟩
            replace H : ((plan_done.f kj4 t267 t272 t273 t274 (mn (ji49) t274)).bind fun t277 => (plan_After.j1 kj4 t275 a0_0 a0_1 a0_2 t264 t265 t266 t277 t272 t273 t274)) = some (r1, r2, r3, r4) := by first | (rw [hji49] at H; exact H) | (simp only [hji49] at H ⊢; exact H)
            have hji49_ : (if a2 < 0 then 0 else a2) = ji49 := hji49
            obtain ⟨ji50, hji50⟩ : ∃ j_ : Int, (mn (ji49) t274) = j_ := ⟨_, rfl⟩
            replace H : ((plan_done.f kj4 t267 t272 t273 t274 (ji50)).bind fun t277 => (plan_After.j1 kj4 t275 a0_0 a0_1 a0_2 t264 t265 t266 t277 t272 t273 t274)) = some (r1, r2, r3, r4) := by first | (rw [hji50] at H; exact H) | (simp only [hji50] at H ⊢; exact H)
            have hji50_ : (if t274 < (ji49) then t274 else (ji49)) = ji50 := hji50
            replace H := Option.bind_eq_some_iff.mp H
            obtain ⟨t277, A510, H⟩ := H
            replace H : (plan_After.j1 kj4 t275 a0_0 a0_1 a0_2 t264 t265 t266 t277 t272 t273 t274) = some (r1, r2, r3, r4) := H
            have A51 := Aside0.mk A510
            clear A510
            have H' := Aside0.mk H
            clear H
            have hnb52 := NB262_261.out
            have hnc52 := NB261_262.out
            have hnb53 := NB262_263.out
            have hnc53 := NB263_262.out
            have hnb54 := NB262_276.out
            have hnc54 := NB276_262.out
            have hcz55_0 : w43.cell? ⟨gb262, 0, none⟩ = some (.int .i64 t264) := (blk_cell BK262.out 0).trans rfl
            have hcz55_1 : w43.cell? ⟨gb262, 1, none⟩ = some (.int .i64 t265) := (blk_cell BK262.out 1).trans rfl
            have hcz55_2 : w43.cell? ⟨gb262, 2, none⟩ = some (.int .u8 t266) := (blk_cell BK262.out 2).trans rfl
            have hcz55_3 : w43.cell? ⟨gb262, 3, none⟩ = some (.slice Ao14 t267.length co14) := (blk_cell BK262.out 3).trans rfl
            have hfz55_0 := blk_frozen BK262.out 0
            have hfz55_1 := blk_frozen BK262.out 1
            have hfz55_2 := blk_frozen BK262.out 2
            have hfz55_3 := blk_frozen BK262.out 3
            have hnb56 := NB276_261.out
            have hnc56 := NB261_276.out
            have hnb57 := NB276_263.out
            have hnc57 := NB263_276.out
            have hcz58_0 : w43.cell? ⟨gb276, 0, none⟩ = some (.int .i64 0) := (blk_cell BK276.out 0).trans rfl
            have hcz58_1 : w43.cell? ⟨gb276, 1, none⟩ = some (.int .i64 0) := (blk_cell BK276.out 1).trans rfl
            have hcz58_2 : w43.cell? ⟨gb276, 2, none⟩ = some (.int .i64 0) := (blk_cell BK276.out 2).trans rfl
            have hfz58_0 := blk_frozen BK276.out 0
            have hfz58_1 := blk_frozen BK276.out 1
            have hfz58_2 := blk_frozen BK276.out 2
            go_wp2_with (first | ((with_reducible refine gate_callee (f := 37) rfl ?_); refine goesL_ (some 37) rfl rfl Try.func37 (by kernel_rfl) rfl #[.slice Ao14 t267.length co14, .agg #[.int .i64 t272, .int .i64 t273, .int .i64 t274], .int .i64 ji50] rfl (by (try simp only [List.map_toArray, List.map_cons, List.map_nil]); first | done | (simp only [hji50]; rfl) | rfl | (simp only [List.length_drop, List.length_take]; rfl)) ?_; (with_reducible refine (plan_done.calls kj4 _ _ t267 t272 t273 t274 ji50 t277 _ ?side1 ?side2 A51.out).mono ?_); (case side1 => refine (Kd.R_reads' (e := 33) (base := w.heap.size) (ok := fun k_ => True) (n := t267.length) (c := co14) ?_).2.2; exact (by (with_reducible repeat (first | apply Kd.R_alloc | apply Kd.R_drewN | apply Kd.R_drew)); exact (Kd.R_mono (Kd.R_far (p := ⟨gb276, 2, none⟩) (Kd.R_far (p := ⟨gb276, 1, none⟩) (Kd.R_far (p := ⟨gb276, 0, none⟩) (Kd.R_types HO_263003.out BK276.out (by decide)) (fun _ hk => hk.2) (.int .i64 t272)) (fun _ hk => hk.2) (.int .i64 t273)) (fun _ hk => hk.2) (.int .i64 t274)) (fun _ h_ => h_.1)))); (case side2 => exact (Kd.R_reads' HO_263003.out).2.1); rintro e w59 ⟨v278, rfl, ho0, hb⟩; refine ⟨_, rfl, ?_⟩; have n0_ := Aside0.mk (Kd.R_elder' (by (with_reducible repeat (first | apply Kd.R_alloc | apply Kd.R_drewN | apply Kd.R_drew)); exact (Kd.R_mono (Kd.R_far (p := ⟨gb276, 2, none⟩) (Kd.R_far (p := ⟨gb276, 1, none⟩) (Kd.R_far (p := ⟨gb276, 0, none⟩) (Kd.R_types HO_263003.out BK276.out (by decide)) (fun _ hk => hk.2) (.int .i64 t272)) (fun _ hk => hk.2) (.int .i64 t273)) (fun _ hk => hk.2) (.int .i64 t274)) (fun _ h_ => h_.1))) (Kd.R_base ho0) hb); have n1_ := Aside0.mk (Kd.R_lower (Kd.R_new' ho0 (Kd.R_lt (by (with_reducible repeat (first | apply Kd.R_alloc | apply Kd.R_drewN | apply Kd.R_drew)); exact (Kd.R_mono (Kd.R_far (p := ⟨gb276, 2, none⟩) (Kd.R_far (p := ⟨gb276, 1, none⟩) (Kd.R_far (p := ⟨gb276, 0, none⟩) (Kd.R_types HO_263003.out BK276.out (by decide)) (fun _ hk => hk.2) (.int .i64 t272)) (fun _ hk => hk.2) (.int .i64 t273)) (fun _ hk => hk.2) (.int .i64 t274)) (fun _ h_ => h_.1))))) (below_size (bh_ HB))); have n2_ := Aside0.mk (blk_below (g := gb261) (o := .cells #[.int .i64 a0_0, .int .i64 a0_1, .bool a0_2] 23 (0, 0)) (bp_ BK261) hb); have n3_ := Aside0.mk (blk_below (g := gb262) (o := .cells #[.int .i64 t264, .int .i64 t265, .int .u8 t266, .slice Ao14 t267.length co14] 26 (0, 0)) (bp_ BK262) hb); have n4_ := Aside0.mk (blk_below (g := gb263) (o := .cells #[.int .i64 0, .int .i64 0, .int .u8 0, .slice none 0 0] 26 (0, 0)) (bp_ BK263) hb); have n5_ := Aside0.mk (blk_below (g := gb276) (o := .cells #[.int .i64 t272, .int .i64 t273, .int .i64 t274] 29 (0, 0)) (bp_ BK276) hb); have n6_ := bs_ HB hb; clear HO_263003; clear BK261; clear BK262; clear BK263; clear BK276; clear HB; have HO_263003 := n0_; have HO279 := n1_; have BK261 := n2_; have BK262 := n3_; have BK263 := n4_; have BK276 := n5_; have HB := n6_; clear n0_ n1_ n2_ n3_ n4_ n5_ n6_; (try clear hb); (try clear hb2); (try clear hk); (try clear hi); (try clear ho0); obtain ⟨Ao60, co60, eo60⟩ := Kd.R_slice HO279.out; subst eo60; have hcz61_0 : w59.cell? ⟨gb262, 0, none⟩ = some (.int .i64 t264) := (blk_cell BK262.out 0).trans rfl; have hcz61_1 : w59.cell? ⟨gb262, 1, none⟩ = some (.int .i64 t265) := (blk_cell BK262.out 1).trans rfl; have hcz61_2 : w59.cell? ⟨gb262, 2, none⟩ = some (.int .u8 t266) := (blk_cell BK262.out 2).trans rfl; have hcz61_3 : w59.cell? ⟨gb262, 3, none⟩ = some (.slice Ao14 t267.length co14) := (blk_cell BK262.out 3).trans rfl; have hfz61_0 := blk_frozen BK262.out 0; have hfz61_1 := blk_frozen BK262.out 1; have hfz61_2 := blk_frozen BK262.out 2; have hfz61_3 := blk_frozen BK262.out 3))
            go_meet
            case rel => exact ⟨_, (t277), (.slice Ao60 t277.length co60), H', ⟨by have := HJ4.out; first | omega | exact Nat.le_refl _⟩, ⟨by (with_reducible repeat (first | apply Kd.R_alloc | apply Kd.R_drewN | apply Kd.R_drew)); exact Kd.R_mono (Kd.R_far (p := ⟨gb262, 3, none⟩) (Kd.R_types HO279.out BK262.out (by decide)) (fun _ hk => hk.2) (.slice Ao60 t277.length co60)) (fun _ hk => trivial)⟩, ⟨by (with_reducible repeat (first | refine blk_drewN ?_ _ | refine blk_drew ?_ | refine blk_alloc ?_ _)); refine blk_far ?_ NB261_262.out _; (with_reducible repeat (first | refine blk_drewN ?_ _ | refine blk_drew ?_ | refine blk_alloc ?_ _)); exact BK261.out⟩, ⟨by (with_reducible repeat (first | refine blk_drewN ?_ _ | refine blk_drew ?_ | refine blk_alloc ?_ _)); refine blk_put (cs := #[.int .i64 t264, .int .i64 t265, .int .u8 t266, .slice Ao14 t267.length co14]) ?_ 3 _ rfl; (with_reducible repeat (first | refine blk_drewN ?_ _ | refine blk_drew ?_ | refine blk_alloc ?_ _)); exact BK262.out⟩, ⟨by (with_reducible repeat (first | refine blk_drewN ?_ _ | refine blk_drew ?_ | refine blk_alloc ?_ _)); refine blk_far ?_ NB263_262.out _; (with_reducible repeat (first | refine blk_drewN ?_ _ | refine blk_drew ?_ | refine blk_alloc ?_ _)); exact BK263.out⟩, ⟨by (with_reducible repeat (first | refine blk_drewN ?_ _ | refine blk_drew ?_ | refine blk_alloc ?_ _)); refine blk_far ?_ NB276_262.out _; (with_reducible repeat (first | refine blk_drewN ?_ _ | refine blk_drew ?_ | refine blk_alloc ?_ _)); exact BK276.out⟩, ⟨by repeat (first | (with_reducible first | exact HB.out | apply below_alloc | apply pw_below_drewN | apply below_drew1 | refine below_set ?_ GE261.out | refine below_set ?_ GE262.out | refine below_set ?_ GE263.out | refine below_set ?_ GE276.out) | exact HB.out)⟩⟩
        case rest =>
          clear HC36
          try clear c1
          try clear c2
          try clear p2
          try clear c3
          try clear c4
          try clear c5
          try clear c9
          try clear c10
          try clear c13
          try clear c14
          try clear c16
          try clear c18
          try clear c19
          try clear c22
          try clear c25
          try clear c26
          try clear c29
          try clear c30
          try clear c31
          try clear c33
          try clear c35
          try clear c36
          try clear c37
          try clear c38
          try clear c40
          try clear c44
          try clear c45
          try clear c46
          try clear c48
          try clear c48b0
          try clear c48b1
          try clear c52
          try clear c53
          try clear c54
          try clear c56
          try clear c57
          try clear hcz11_0
          try clear hcz11_1
          try clear hcz11_2
          try clear hcz11_3
          try clear hcz13_0
          try clear hcz13_1
          try clear hcz13_2
          try clear hcz13_3
          try clear hcz20_0
          try clear hcz20_1
          try clear hcz20_2
          try clear hcz23_0
          try clear hcz23_1
          try clear hcz23_2
          try clear hcz23_3
          try clear hcz27_0
          try clear hcz27_1
          try clear hcz27_2
          try clear hcz32_0
          try clear hcz32_1
          try clear hcz32_2
          try clear hcz32_3
          try clear hcz34_0
          try clear hcz34_1
          try clear hcz34_2
          try clear hcz34_3
          try clear hcz39_0
          try clear hcz39_1
          try clear hcz39_2
          try clear hcz41_0
          try clear hcz41_1
          try clear hcz41_2
          try clear hcz41_3
          try clear hcz47_0
          try clear hcz47_1
          try clear hcz47_2
          try clear hcz55_0
          try clear hcz55_1
          try clear hcz55_2
          try clear hcz55_3
          try clear hcz58_0
          try clear hcz58_1
          try clear hcz58_2
          try clear hcz61_0
          try clear hcz61_1
          try clear hcz61_2
          try clear hcz61_3
          try clear hfz11_0
          try clear hfz11_1
          try clear hfz11_2
          try clear hfz11_3
          try clear hfz13_0
          try clear hfz13_1
          try clear hfz13_2
          try clear hfz13_3
          try clear hfz20_0
          try clear hfz20_1
          try clear hfz20_2
          try clear hfz23_0
          try clear hfz23_1
          try clear hfz23_2
          try clear hfz23_3
          try clear hfz27_0
          try clear hfz27_1
          try clear hfz27_2
          try clear hfz32_0
          try clear hfz32_1
          try clear hfz32_2
          try clear hfz32_3
          try clear hfz34_0
          try clear hfz34_1
          try clear hfz34_2
          try clear hfz34_3
          try clear hfz39_0
          try clear hfz39_1
          try clear hfz39_2
          try clear hfz41_0
          try clear hfz41_1
          try clear hfz41_2
          try clear hfz41_3
          try clear hfz47_0
          try clear hfz47_1
          try clear hfz47_2
          try clear hfz55_0
          try clear hfz55_1
          try clear hfz55_2
          try clear hfz55_3
          try clear hfz58_0
          try clear hfz58_1
          try clear hfz58_2
          try clear hfz61_0
          try clear hfz61_1
          try clear hfz61_2
          try clear hfz61_3
          try clear p2
          obtain ⟨kq, x263003_35, u263003, HA, HJ35, HO_263003, BK261, BK262, BK263, BK276, HB⟩ := hcut
          cases kq with
          | zero => exact absurd HA.out (by simp [plan_After.j1])
          | succ kj35 =>
            have H := HA.out
            clear HA
            simp only [plan_After.j1] at H
            by_cases c62 : t272 = 4
            · rw [if_pos c62] at H
              have c62b0 : (t272 == 4) = true := beq_iff_eq.mpr c62
              have c62b1 : (t272 != 4) = false := bne_eq_false_iff_eq.mpr c62
              clear c62
              by_cases c63 : a0_2 = true
              · subst c63
                have H1 : (if t275 = true then ((plan_status.f kj35 a0_0 a0_1 true t273 (wrap64 (t265 + 1)) t266 x263003_35).bind fun t280 => (some (t273, wrap64 (t265 + 1), t280, x263003_35))) else ((plan_status.f kj35 a0_0 a0_1 true t273 t265 t266 x263003_35).bind fun t281 => (some (t273, t265, t281, x263003_35)))) = some (r1, r2, r3, r4) := by rw [if_pos rfl] at H; exact H
                clear H
                have H := H1
                clear H1
                by_cases c64 : t275 = true
                · subst c64
                  have H1 : ((plan_status.f kj35 a0_0 a0_1 true t273 (wrap64 (t265 + 1)) t266 x263003_35).bind fun t280 => (some (t273, wrap64 (t265 + 1), t280, x263003_35))) = some (r1, r2, r3, r4) := by rw [if_pos rfl] at H; exact H
                  clear H
                  have H := H1
                  clear H1
                  replace H := Option.bind_eq_some_iff.mp H
                  obtain ⟨t280, A650, H⟩ := H
                  replace H : (some (t273, wrap64 (t265 + 1), t280, x263003_35)) = some (r1, r2, r3, r4) := H
                  have A65 := Aside0.mk A650
                  clear A650
                  simp only [Option.some.injEq, Prod.mk.injEq] at H
                  obtain ⟨rfl, rfl, rfl, rfl⟩ := H
                  have hnb66 := NB276_261.out
                  have hnc66 := NB261_276.out
                  have hnb67 := NB276_262.out
                  have hnc67 := NB262_276.out
                  have hnb68 := NB276_263.out
                  have hnc68 := NB263_276.out
                  have hcz69_0 : wc.cell? ⟨gb276, 0, none⟩ = some (.int .i64 t272) := (blk_cell BK276.out 0).trans rfl
                  have hcz69_1 : wc.cell? ⟨gb276, 1, none⟩ = some (.int .i64 t273) := (blk_cell BK276.out 1).trans rfl
                  have hcz69_2 : wc.cell? ⟨gb276, 2, none⟩ = some (.int .i64 t274) := (blk_cell BK276.out 2).trans rfl
                  have hfz69_0 := blk_frozen BK276.out 0
                  have hfz69_1 := blk_frozen BK276.out 1
                  have hfz69_2 := blk_frozen BK276.out 2
                  have hnb70 := NB262_261.out
                  have hnc70 := NB261_262.out
                  have hnb71 := NB262_263.out
                  have hnc71 := NB263_262.out
                  have hcz72_0 : wc.cell? ⟨gb262, 0, none⟩ = some (.int .i64 t264) := (blk_cell BK262.out 0).trans rfl
                  have hcz72_1 : wc.cell? ⟨gb262, 1, none⟩ = some (.int .i64 t265) := (blk_cell BK262.out 1).trans rfl
                  have hcz72_2 : wc.cell? ⟨gb262, 2, none⟩ = some (.int .u8 t266) := (blk_cell BK262.out 2).trans rfl
                  have hcz72_3 : wc.cell? ⟨gb262, 3, none⟩ = some (u263003) := (blk_cell BK262.out 3).trans rfl
                  have hfz72_0 := blk_frozen BK262.out 0
                  have hfz72_1 := blk_frozen BK262.out 1
                  have hfz72_2 := blk_frozen BK262.out 2
                  have hfz72_3 := blk_frozen BK262.out 3
                  have hnb73 := NB261_263.out
                  have hnc73 := NB263_261.out
                  have hcz74_0 : wc.cell? ⟨gb261, 0, none⟩ = some (.int .i64 a0_0) := (blk_cell BK261.out 0).trans rfl
                  have hcz74_1 : wc.cell? ⟨gb261, 1, none⟩ = some (.int .i64 a0_1) := (blk_cell BK261.out 1).trans rfl
                  have hcz74_2 : wc.cell? ⟨gb261, 2, none⟩ = some (.bool true) := (blk_cell BK261.out 2).trans rfl
                  have hfz74_0 := blk_frozen BK261.out 0
                  have hfz74_1 := blk_frozen BK261.out 1
                  have hfz74_2 := blk_frozen BK261.out 2
                  obtain ⟨Ao75, co75, eo75⟩ := Kd.R_slice HO_263003.out
                  subst eo75
                  go_wp2_with (first | ((with_reducible refine gate_callee (f := 38) rfl ?_); refine gl_ (some 60) rfl rfl Try.func38 (by kernel_rfl) rfl #[.agg #[.int .i64 a0_0, .int .i64 a0_1, .bool true], .agg #[.int .i64 t273, .int .i64 (wrap64 (t265 + 1)), .int .u8 t266, .slice Ao75 x263003_35.length co75]] rfl ?_; (with_reducible refine (plan_status.calls kj35 a0_0 a0_1 true t273 (wrap64 (t265 + 1)) t266 _ _ x263003_35 t280 _ ?side1 ?side2 A65.out).mono ?_); (case side1 => refine (Kd.R_reads' (e := 33) (base := w.heap.size) (ok := fun k_ => True) (n := x263003_35.length) (c := co75) ?_).2.2; exact (by (with_reducible repeat (first | apply Kd.R_alloc | apply Kd.R_drewN | apply Kd.R_drew)); exact (Kd.R_mono (Kd.R_far (p := ⟨gb262, 1, none⟩) (Kd.R_far (p := ⟨gb262, 0, none⟩) (Kd.R_far (p := ⟨gb262, 0, none⟩) (Kd.R_types HO_263003.out BK262.out (by decide)) (fun _ hk => hk.2) (.int .i64 (wrap64 (t273 + t274)))) (fun _ hk => hk.2) (.int .i64 t273)) (fun _ hk => hk.2) (.int .i64 (wrap64 (t265 + 1)))) (fun _ h_ => h_.1)))); (case side2 => exact (Kd.R_reads' HO_263003.out).2.1); rintro e w76 ⟨rfl, hb⟩; refine ⟨_, rfl, ?_⟩; have n0_ := Aside0.mk (Kd.R_below (by (with_reducible repeat (first | apply Kd.R_alloc | apply Kd.R_drewN | apply Kd.R_drew)); exact (Kd.R_mono (Kd.R_far (p := ⟨gb262, 1, none⟩) (Kd.R_far (p := ⟨gb262, 0, none⟩) (Kd.R_far (p := ⟨gb262, 0, none⟩) (Kd.R_types HO_263003.out BK262.out (by decide)) (fun _ hk => hk.2) (.int .i64 (wrap64 (t273 + t274)))) (fun _ hk => hk.2) (.int .i64 t273)) (fun _ hk => hk.2) (.int .i64 (wrap64 (t265 + 1)))) (fun _ h_ => h_.1))) hb); have n1_ := Aside0.mk (blk_below (g := gb261) (o := .cells #[.int .i64 a0_0, .int .i64 a0_1, .bool true] 23 (0, 0)) (bp_ BK261) hb); have n2_ := Aside0.mk (blk_below (g := gb262) (o := .cells #[.int .i64 t273, .int .i64 (wrap64 (t265 + 1)), .int .u8 t266, .slice Ao75 x263003_35.length co75] 26 (0, 0)) (bp_ BK262) hb); have n3_ := Aside0.mk (blk_below (g := gb263) (o := .cells #[.int .i64 0, .int .i64 0, .int .u8 0, .slice none 0 0] 26 (0, 0)) (bp_ BK263) hb); have n4_ := Aside0.mk (blk_below (g := gb276) (o := .cells #[.int .i64 t272, .int .i64 t273, .int .i64 t274] 29 (0, 0)) (bp_ BK276) hb); have n5_ := bs_ HB hb; clear HO_263003; clear BK261; clear BK262; clear BK263; clear BK276; clear HB; have HO_263003 := n0_; have BK261 := n1_; have BK262 := n2_; have BK263 := n3_; have BK276 := n4_; have HB := n5_; clear n0_ n1_ n2_ n3_ n4_ n5_; (try clear hb); (try clear hb2); (try clear hk); (try clear hi); have hcz77_0 : w76.cell? ⟨gb262, 0, none⟩ = some (.int .i64 t273) := (blk_cell BK262.out 0).trans rfl; have hcz77_1 : w76.cell? ⟨gb262, 1, none⟩ = some (.int .i64 (wrap64 (t265 + 1))) := (blk_cell BK262.out 1).trans rfl; have hcz77_2 : w76.cell? ⟨gb262, 2, none⟩ = some (.int .u8 t266) := (blk_cell BK262.out 2).trans rfl; have hcz77_3 : w76.cell? ⟨gb262, 3, none⟩ = some (.slice Ao75 x263003_35.length co75) := (blk_cell BK262.out 3).trans rfl; have hfz77_0 := blk_frozen BK262.out 0; have hfz77_1 := blk_frozen BK262.out 1; have hfz77_2 := blk_frozen BK262.out 2; have hfz77_3 := blk_frozen BK262.out 3; have hcz78_0 : w76.cell? ⟨gb263, 0, none⟩ = some (.int .i64 0) := (blk_cell BK263.out 0).trans rfl; have hcz78_1 : w76.cell? ⟨gb263, 1, none⟩ = some (.int .i64 0) := (blk_cell BK263.out 1).trans rfl; have hcz78_2 : w76.cell? ⟨gb263, 2, none⟩ = some (.int .u8 0) := (blk_cell BK263.out 2).trans rfl; have hcz78_3 : w76.cell? ⟨gb263, 3, none⟩ = some (.slice none 0 0) := (blk_cell BK263.out 3).trans rfl; have hfz78_0 := blk_frozen BK263.out 0; have hfz78_1 := blk_frozen BK263.out 1; have hfz78_2 := blk_frozen BK263.out 2; have hfz78_3 := blk_frozen BK263.out 3))
                  refine bodyPost_ret (results_cell_row rfl _ _ gb263 26 #[.int .i64 t273, .int .i64 (wrap64 (t265 + 1)), .int .u8 t280, .slice Ao75 x263003_35.length co75] (0, 0) _ rfl (bp_ BK263) Try.underlying26 rfl (by kernel_rfl)) rfl ?_
                  exact ⟨_, by first | rfl | (simp [errW_none, errW_some] <;> rfl) | (simp [*, errW_none, errW_some] <;> rfl), by (with_reducible repeat (first | apply Kd.R_alloc | apply Kd.R_drewN | apply Kd.R_drew)); exact Kd.R_mono (Kd.R_far (p := ⟨gb263, 3, none⟩) (Kd.R_far (p := ⟨gb263, 2, none⟩) (Kd.R_far (p := ⟨gb263, 1, none⟩) (Kd.R_far (p := ⟨gb263, 0, none⟩) (Kd.R_far (p := ⟨gb262, 2, none⟩) (Kd.R_types (Kd.R_types HO_263003.out BK262.out (by decide)) BK263.out (by decide)) (fun _ hk => hk.1.2) (.int .u8 t280)) (fun _ hk => hk.2) (.int .i64 t273)) (fun _ hk => hk.2) (.int .i64 (wrap64 (t265 + 1)))) (fun _ hk => hk.2) (.int .u8 t280)) (fun _ hk => hk.2) (.slice Ao75 x263003_35.length co75)) (fun _ hk => trivial), bh_ HB⟩
                · replace c64 := Bool.eq_false_iff.mpr c64
                  subst c64
                  have H1 : ((plan_status.f kj35 a0_0 a0_1 true t273 t265 t266 x263003_35).bind fun t281 => (some (t273, t265, t281, x263003_35))) = some (r1, r2, r3, r4) := by rw [if_neg (show ¬ (false = true) by decide)] at H; exact H
                  clear H
                  have H := H1
                  clear H1
                  replace H := Option.bind_eq_some_iff.mp H
                  obtain ⟨t281, A790, H⟩ := H
                  replace H : (some (t273, t265, t281, x263003_35)) = some (r1, r2, r3, r4) := H
                  have A79 := Aside0.mk A790
                  clear A790
                  simp only [Option.some.injEq, Prod.mk.injEq] at H
                  obtain ⟨rfl, rfl, rfl, rfl⟩ := H
                  have hnb80 := NB276_261.out
                  have hnc80 := NB261_276.out
                  have hnb81 := NB276_262.out
                  have hnc81 := NB262_276.out
                  have hnb82 := NB276_263.out
                  have hnc82 := NB263_276.out
                  have hcz83_0 : wc.cell? ⟨gb276, 0, none⟩ = some (.int .i64 t272) := (blk_cell BK276.out 0).trans rfl
                  have hcz83_1 : wc.cell? ⟨gb276, 1, none⟩ = some (.int .i64 t273) := (blk_cell BK276.out 1).trans rfl
                  have hcz83_2 : wc.cell? ⟨gb276, 2, none⟩ = some (.int .i64 t274) := (blk_cell BK276.out 2).trans rfl
                  have hfz83_0 := blk_frozen BK276.out 0
                  have hfz83_1 := blk_frozen BK276.out 1
                  have hfz83_2 := blk_frozen BK276.out 2
                  have hnb84 := NB262_261.out
                  have hnc84 := NB261_262.out
                  have hnb85 := NB262_263.out
                  have hnc85 := NB263_262.out
                  have hcz86_0 : wc.cell? ⟨gb262, 0, none⟩ = some (.int .i64 t264) := (blk_cell BK262.out 0).trans rfl
                  have hcz86_1 : wc.cell? ⟨gb262, 1, none⟩ = some (.int .i64 t265) := (blk_cell BK262.out 1).trans rfl
                  have hcz86_2 : wc.cell? ⟨gb262, 2, none⟩ = some (.int .u8 t266) := (blk_cell BK262.out 2).trans rfl
                  have hcz86_3 : wc.cell? ⟨gb262, 3, none⟩ = some (u263003) := (blk_cell BK262.out 3).trans rfl
                  have hfz86_0 := blk_frozen BK262.out 0
                  have hfz86_1 := blk_frozen BK262.out 1
                  have hfz86_2 := blk_frozen BK262.out 2
                  have hfz86_3 := blk_frozen BK262.out 3
                  have hnb87 := NB261_263.out
                  have hnc87 := NB263_261.out
                  have hcz88_0 : wc.cell? ⟨gb261, 0, none⟩ = some (.int .i64 a0_0) := (blk_cell BK261.out 0).trans rfl
                  have hcz88_1 : wc.cell? ⟨gb261, 1, none⟩ = some (.int .i64 a0_1) := (blk_cell BK261.out 1).trans rfl
                  have hcz88_2 : wc.cell? ⟨gb261, 2, none⟩ = some (.bool true) := (blk_cell BK261.out 2).trans rfl
                  have hfz88_0 := blk_frozen BK261.out 0
                  have hfz88_1 := blk_frozen BK261.out 1
                  have hfz88_2 := blk_frozen BK261.out 2
                  obtain ⟨Ao89, co89, eo89⟩ := Kd.R_slice HO_263003.out
                  subst eo89
                  go_wp2_with (first | ((with_reducible refine gate_callee (f := 38) rfl ?_); refine gl_ (some 60) rfl rfl Try.func38 (by kernel_rfl) rfl #[.agg #[.int .i64 a0_0, .int .i64 a0_1, .bool true], .agg #[.int .i64 t273, .int .i64 t265, .int .u8 t266, .slice Ao89 x263003_35.length co89]] rfl ?_; (with_reducible refine (plan_status.calls kj35 a0_0 a0_1 true t273 t265 t266 _ _ x263003_35 t281 _ ?side1 ?side2 A79.out).mono ?_); (case side1 => refine (Kd.R_reads' (e := 33) (base := w.heap.size) (ok := fun k_ => True) (n := x263003_35.length) (c := co89) ?_).2.2; exact (by (with_reducible repeat (first | apply Kd.R_alloc | apply Kd.R_drewN | apply Kd.R_drew)); exact (Kd.R_mono (Kd.R_far (p := ⟨gb262, 0, none⟩) (Kd.R_far (p := ⟨gb262, 0, none⟩) (Kd.R_types HO_263003.out BK262.out (by decide)) (fun _ hk => hk.2) (.int .i64 (wrap64 (t273 + t274)))) (fun _ hk => hk.2) (.int .i64 t273)) (fun _ h_ => h_.1)))); (case side2 => exact (Kd.R_reads' HO_263003.out).2.1); rintro e w90 ⟨rfl, hb⟩; refine ⟨_, rfl, ?_⟩; have n0_ := Aside0.mk (Kd.R_below (by (with_reducible repeat (first | apply Kd.R_alloc | apply Kd.R_drewN | apply Kd.R_drew)); exact (Kd.R_mono (Kd.R_far (p := ⟨gb262, 0, none⟩) (Kd.R_far (p := ⟨gb262, 0, none⟩) (Kd.R_types HO_263003.out BK262.out (by decide)) (fun _ hk => hk.2) (.int .i64 (wrap64 (t273 + t274)))) (fun _ hk => hk.2) (.int .i64 t273)) (fun _ h_ => h_.1))) hb); have n1_ := Aside0.mk (blk_below (g := gb261) (o := .cells #[.int .i64 a0_0, .int .i64 a0_1, .bool true] 23 (0, 0)) (bp_ BK261) hb); have n2_ := Aside0.mk (blk_below (g := gb262) (o := .cells #[.int .i64 t273, .int .i64 t265, .int .u8 t266, .slice Ao89 x263003_35.length co89] 26 (0, 0)) (bp_ BK262) hb); have n3_ := Aside0.mk (blk_below (g := gb263) (o := .cells #[.int .i64 0, .int .i64 0, .int .u8 0, .slice none 0 0] 26 (0, 0)) (bp_ BK263) hb); have n4_ := Aside0.mk (blk_below (g := gb276) (o := .cells #[.int .i64 t272, .int .i64 t273, .int .i64 t274] 29 (0, 0)) (bp_ BK276) hb); have n5_ := bs_ HB hb; clear HO_263003; clear BK261; clear BK262; clear BK263; clear BK276; clear HB; have HO_263003 := n0_; have BK261 := n1_; have BK262 := n2_; have BK263 := n3_; have BK276 := n4_; have HB := n5_; clear n0_ n1_ n2_ n3_ n4_ n5_; (try clear hb); (try clear hb2); (try clear hk); (try clear hi); have hcz91_0 : w90.cell? ⟨gb262, 0, none⟩ = some (.int .i64 t273) := (blk_cell BK262.out 0).trans rfl; have hcz91_1 : w90.cell? ⟨gb262, 1, none⟩ = some (.int .i64 t265) := (blk_cell BK262.out 1).trans rfl; have hcz91_2 : w90.cell? ⟨gb262, 2, none⟩ = some (.int .u8 t266) := (blk_cell BK262.out 2).trans rfl; have hcz91_3 : w90.cell? ⟨gb262, 3, none⟩ = some (.slice Ao89 x263003_35.length co89) := (blk_cell BK262.out 3).trans rfl; have hfz91_0 := blk_frozen BK262.out 0; have hfz91_1 := blk_frozen BK262.out 1; have hfz91_2 := blk_frozen BK262.out 2; have hfz91_3 := blk_frozen BK262.out 3; have hcz92_0 : w90.cell? ⟨gb263, 0, none⟩ = some (.int .i64 0) := (blk_cell BK263.out 0).trans rfl; have hcz92_1 : w90.cell? ⟨gb263, 1, none⟩ = some (.int .i64 0) := (blk_cell BK263.out 1).trans rfl; have hcz92_2 : w90.cell? ⟨gb263, 2, none⟩ = some (.int .u8 0) := (blk_cell BK263.out 2).trans rfl; have hcz92_3 : w90.cell? ⟨gb263, 3, none⟩ = some (.slice none 0 0) := (blk_cell BK263.out 3).trans rfl; have hfz92_0 := blk_frozen BK263.out 0; have hfz92_1 := blk_frozen BK263.out 1; have hfz92_2 := blk_frozen BK263.out 2; have hfz92_3 := blk_frozen BK263.out 3))
                  refine bodyPost_ret (results_cell_row rfl _ _ gb263 26 #[.int .i64 t273, .int .i64 t265, .int .u8 t281, .slice Ao89 x263003_35.length co89] (0, 0) _ rfl (bp_ BK263) Try.underlying26 rfl (by kernel_rfl)) rfl ?_
                  exact ⟨_, by first | rfl | (simp [errW_none, errW_some] <;> rfl) | (simp [*, errW_none, errW_some] <;> rfl), by (with_reducible repeat (first | apply Kd.R_alloc | apply Kd.R_drewN | apply Kd.R_drew)); exact Kd.R_mono (Kd.R_far (p := ⟨gb263, 3, none⟩) (Kd.R_far (p := ⟨gb263, 2, none⟩) (Kd.R_far (p := ⟨gb263, 1, none⟩) (Kd.R_far (p := ⟨gb263, 0, none⟩) (Kd.R_far (p := ⟨gb262, 2, none⟩) (Kd.R_types (Kd.R_types HO_263003.out BK262.out (by decide)) BK263.out (by decide)) (fun _ hk => hk.1.2) (.int .u8 t281)) (fun _ hk => hk.2) (.int .i64 t273)) (fun _ hk => hk.2) (.int .i64 t265)) (fun _ hk => hk.2) (.int .u8 t281)) (fun _ hk => hk.2) (.slice Ao89 x263003_35.length co89)) (fun _ hk => trivial), bh_ HB⟩
              · replace c63 := Bool.eq_false_iff.mpr c63
                subst c63
                have H1 : (if t275 = true then ((plan_status.f kj35 a0_0 a0_1 false (wrap64 (t273 + t274)) (wrap64 (t265 + 1)) t266 x263003_35).bind fun t282 => (some (wrap64 (t273 + t274), wrap64 (t265 + 1), t282, x263003_35))) else ((plan_status.f kj35 a0_0 a0_1 false (wrap64 (t273 + t274)) t265 t266 x263003_35).bind fun t283 => (some (wrap64 (t273 + t274), t265, t283, x263003_35)))) = some (r1, r2, r3, r4) := by rw [if_neg (show ¬ (false = true) by decide)] at H; exact H
                clear H
                have H := H1
                clear H1
                by_cases c93 : t275 = true
                · subst c93
                  have H1 : ((plan_status.f kj35 a0_0 a0_1 false (wrap64 (t273 + t274)) (wrap64 (t265 + 1)) t266 x263003_35).bind fun t282 => (some (wrap64 (t273 + t274), wrap64 (t265 + 1), t282, x263003_35))) = some (r1, r2, r3, r4) := by rw [if_pos rfl] at H; exact H
                  clear H
                  have H := H1
                  clear H1
                  replace H := Option.bind_eq_some_iff.mp H
                  obtain ⟨t282, A940, H⟩ := H
                  replace H : (some (wrap64 (t273 + t274), wrap64 (t265 + 1), t282, x263003_35)) = some (r1, r2, r3, r4) := H
                  have A94 := Aside0.mk A940
                  clear A940
                  simp only [Option.some.injEq, Prod.mk.injEq] at H
                  obtain ⟨rfl, rfl, rfl, rfl⟩ := H
                  have hnb95 := NB276_261.out
                  have hnc95 := NB261_276.out
                  have hnb96 := NB276_262.out
                  have hnc96 := NB262_276.out
                  have hnb97 := NB276_263.out
                  have hnc97 := NB263_276.out
                  have hcz98_0 : wc.cell? ⟨gb276, 0, none⟩ = some (.int .i64 t272) := (blk_cell BK276.out 0).trans rfl
                  have hcz98_1 : wc.cell? ⟨gb276, 1, none⟩ = some (.int .i64 t273) := (blk_cell BK276.out 1).trans rfl
                  have hcz98_2 : wc.cell? ⟨gb276, 2, none⟩ = some (.int .i64 t274) := (blk_cell BK276.out 2).trans rfl
                  have hfz98_0 := blk_frozen BK276.out 0
                  have hfz98_1 := blk_frozen BK276.out 1
                  have hfz98_2 := blk_frozen BK276.out 2
                  have hnb99 := NB262_261.out
                  have hnc99 := NB261_262.out
                  have hnb100 := NB262_263.out
                  have hnc100 := NB263_262.out
                  have hcz101_0 : wc.cell? ⟨gb262, 0, none⟩ = some (.int .i64 t264) := (blk_cell BK262.out 0).trans rfl
                  have hcz101_1 : wc.cell? ⟨gb262, 1, none⟩ = some (.int .i64 t265) := (blk_cell BK262.out 1).trans rfl
                  have hcz101_2 : wc.cell? ⟨gb262, 2, none⟩ = some (.int .u8 t266) := (blk_cell BK262.out 2).trans rfl
                  have hcz101_3 : wc.cell? ⟨gb262, 3, none⟩ = some (u263003) := (blk_cell BK262.out 3).trans rfl
                  have hfz101_0 := blk_frozen BK262.out 0
                  have hfz101_1 := blk_frozen BK262.out 1
                  have hfz101_2 := blk_frozen BK262.out 2
                  have hfz101_3 := blk_frozen BK262.out 3
                  have hnb102 := NB261_263.out
                  have hnc102 := NB263_261.out
                  have hcz103_0 : wc.cell? ⟨gb261, 0, none⟩ = some (.int .i64 a0_0) := (blk_cell BK261.out 0).trans rfl
                  have hcz103_1 : wc.cell? ⟨gb261, 1, none⟩ = some (.int .i64 a0_1) := (blk_cell BK261.out 1).trans rfl
                  have hcz103_2 : wc.cell? ⟨gb261, 2, none⟩ = some (.bool false) := (blk_cell BK261.out 2).trans rfl
                  have hfz103_0 := blk_frozen BK261.out 0
                  have hfz103_1 := blk_frozen BK261.out 1
                  have hfz103_2 := blk_frozen BK261.out 2
                  obtain ⟨Ao104, co104, eo104⟩ := Kd.R_slice HO_263003.out
                  subst eo104
                  go_wp2_with (first | ((with_reducible refine gate_callee (f := 38) rfl ?_); refine gl_ (some 60) rfl rfl Try.func38 (by kernel_rfl) rfl #[.agg #[.int .i64 a0_0, .int .i64 a0_1, .bool false], .agg #[.int .i64 (wrap64 (t273 + t274)), .int .i64 (wrap64 (t265 + 1)), .int .u8 t266, .slice Ao104 x263003_35.length co104]] rfl ?_; (with_reducible refine (plan_status.calls kj35 a0_0 a0_1 false (wrap64 (t273 + t274)) (wrap64 (t265 + 1)) t266 _ _ x263003_35 t282 _ ?side1 ?side2 A94.out).mono ?_); (case side1 => refine (Kd.R_reads' (e := 33) (base := w.heap.size) (ok := fun k_ => True) (n := x263003_35.length) (c := co104) ?_).2.2; exact (by (with_reducible repeat (first | apply Kd.R_alloc | apply Kd.R_drewN | apply Kd.R_drew)); exact (Kd.R_mono (Kd.R_far (p := ⟨gb262, 1, none⟩) (Kd.R_far (p := ⟨gb262, 0, none⟩) (Kd.R_types HO_263003.out BK262.out (by decide)) (fun _ hk => hk.2) (.int .i64 (wrap64 (t273 + t274)))) (fun _ hk => hk.2) (.int .i64 (wrap64 (t265 + 1)))) (fun _ h_ => h_.1)))); (case side2 => exact (Kd.R_reads' HO_263003.out).2.1); rintro e w105 ⟨rfl, hb⟩; refine ⟨_, rfl, ?_⟩; have n0_ := Aside0.mk (Kd.R_below (by (with_reducible repeat (first | apply Kd.R_alloc | apply Kd.R_drewN | apply Kd.R_drew)); exact (Kd.R_mono (Kd.R_far (p := ⟨gb262, 1, none⟩) (Kd.R_far (p := ⟨gb262, 0, none⟩) (Kd.R_types HO_263003.out BK262.out (by decide)) (fun _ hk => hk.2) (.int .i64 (wrap64 (t273 + t274)))) (fun _ hk => hk.2) (.int .i64 (wrap64 (t265 + 1)))) (fun _ h_ => h_.1))) hb); have n1_ := Aside0.mk (blk_below (g := gb261) (o := .cells #[.int .i64 a0_0, .int .i64 a0_1, .bool false] 23 (0, 0)) (bp_ BK261) hb); have n2_ := Aside0.mk (blk_below (g := gb262) (o := .cells #[.int .i64 (wrap64 (t273 + t274)), .int .i64 (wrap64 (t265 + 1)), .int .u8 t266, .slice Ao104 x263003_35.length co104] 26 (0, 0)) (bp_ BK262) hb); have n3_ := Aside0.mk (blk_below (g := gb263) (o := .cells #[.int .i64 0, .int .i64 0, .int .u8 0, .slice none 0 0] 26 (0, 0)) (bp_ BK263) hb); have n4_ := Aside0.mk (blk_below (g := gb276) (o := .cells #[.int .i64 t272, .int .i64 t273, .int .i64 t274] 29 (0, 0)) (bp_ BK276) hb); have n5_ := bs_ HB hb; clear HO_263003; clear BK261; clear BK262; clear BK263; clear BK276; clear HB; have HO_263003 := n0_; have BK261 := n1_; have BK262 := n2_; have BK263 := n3_; have BK276 := n4_; have HB := n5_; clear n0_ n1_ n2_ n3_ n4_ n5_; (try clear hb); (try clear hb2); (try clear hk); (try clear hi); have hcz106_0 : w105.cell? ⟨gb262, 0, none⟩ = some (.int .i64 (wrap64 (t273 + t274))) := (blk_cell BK262.out 0).trans rfl; have hcz106_1 : w105.cell? ⟨gb262, 1, none⟩ = some (.int .i64 (wrap64 (t265 + 1))) := (blk_cell BK262.out 1).trans rfl; have hcz106_2 : w105.cell? ⟨gb262, 2, none⟩ = some (.int .u8 t266) := (blk_cell BK262.out 2).trans rfl; have hcz106_3 : w105.cell? ⟨gb262, 3, none⟩ = some (.slice Ao104 x263003_35.length co104) := (blk_cell BK262.out 3).trans rfl; have hfz106_0 := blk_frozen BK262.out 0; have hfz106_1 := blk_frozen BK262.out 1; have hfz106_2 := blk_frozen BK262.out 2; have hfz106_3 := blk_frozen BK262.out 3; have hcz107_0 : w105.cell? ⟨gb263, 0, none⟩ = some (.int .i64 0) := (blk_cell BK263.out 0).trans rfl; have hcz107_1 : w105.cell? ⟨gb263, 1, none⟩ = some (.int .i64 0) := (blk_cell BK263.out 1).trans rfl; have hcz107_2 : w105.cell? ⟨gb263, 2, none⟩ = some (.int .u8 0) := (blk_cell BK263.out 2).trans rfl; have hcz107_3 : w105.cell? ⟨gb263, 3, none⟩ = some (.slice none 0 0) := (blk_cell BK263.out 3).trans rfl; have hfz107_0 := blk_frozen BK263.out 0; have hfz107_1 := blk_frozen BK263.out 1; have hfz107_2 := blk_frozen BK263.out 2; have hfz107_3 := blk_frozen BK263.out 3))
                  refine bodyPost_ret (results_cell_row rfl _ _ gb263 26 #[.int .i64 (wrap64 (t273 + t274)), .int .i64 (wrap64 (t265 + 1)), .int .u8 t282, .slice Ao104 x263003_35.length co104] (0, 0) _ rfl (bp_ BK263) Try.underlying26 rfl (by kernel_rfl)) rfl ?_
                  exact ⟨_, by first | rfl | (simp [errW_none, errW_some] <;> rfl) | (simp [*, errW_none, errW_some] <;> rfl), by (with_reducible repeat (first | apply Kd.R_alloc | apply Kd.R_drewN | apply Kd.R_drew)); exact Kd.R_mono (Kd.R_far (p := ⟨gb263, 3, none⟩) (Kd.R_far (p := ⟨gb263, 2, none⟩) (Kd.R_far (p := ⟨gb263, 1, none⟩) (Kd.R_far (p := ⟨gb263, 0, none⟩) (Kd.R_far (p := ⟨gb262, 2, none⟩) (Kd.R_types (Kd.R_types HO_263003.out BK262.out (by decide)) BK263.out (by decide)) (fun _ hk => hk.1.2) (.int .u8 t282)) (fun _ hk => hk.2) (.int .i64 (wrap64 (t273 + t274)))) (fun _ hk => hk.2) (.int .i64 (wrap64 (t265 + 1)))) (fun _ hk => hk.2) (.int .u8 t282)) (fun _ hk => hk.2) (.slice Ao104 x263003_35.length co104)) (fun _ hk => trivial), bh_ HB⟩
                · replace c93 := Bool.eq_false_iff.mpr c93
                  subst c93
                  have H1 : ((plan_status.f kj35 a0_0 a0_1 false (wrap64 (t273 + t274)) t265 t266 x263003_35).bind fun t283 => (some (wrap64 (t273 + t274), t265, t283, x263003_35))) = some (r1, r2, r3, r4) := by rw [if_neg (show ¬ (false = true) by decide)] at H; exact H
                  clear H
                  have H := H1
                  clear H1
                  replace H := Option.bind_eq_some_iff.mp H
                  obtain ⟨t283, A1080, H⟩ := H
                  replace H : (some (wrap64 (t273 + t274), t265, t283, x263003_35)) = some (r1, r2, r3, r4) := H
                  have A108 := Aside0.mk A1080
                  clear A1080
                  simp only [Option.some.injEq, Prod.mk.injEq] at H
                  obtain ⟨rfl, rfl, rfl, rfl⟩ := H
                  have hnb109 := NB276_261.out
                  have hnc109 := NB261_276.out
                  have hnb110 := NB276_262.out
                  have hnc110 := NB262_276.out
                  have hnb111 := NB276_263.out
                  have hnc111 := NB263_276.out
                  have hcz112_0 : wc.cell? ⟨gb276, 0, none⟩ = some (.int .i64 t272) := (blk_cell BK276.out 0).trans rfl
                  have hcz112_1 : wc.cell? ⟨gb276, 1, none⟩ = some (.int .i64 t273) := (blk_cell BK276.out 1).trans rfl
                  have hcz112_2 : wc.cell? ⟨gb276, 2, none⟩ = some (.int .i64 t274) := (blk_cell BK276.out 2).trans rfl
                  have hfz112_0 := blk_frozen BK276.out 0
                  have hfz112_1 := blk_frozen BK276.out 1
                  have hfz112_2 := blk_frozen BK276.out 2
                  have hnb113 := NB262_261.out
                  have hnc113 := NB261_262.out
                  have hnb114 := NB262_263.out
                  have hnc114 := NB263_262.out
                  have hcz115_0 : wc.cell? ⟨gb262, 0, none⟩ = some (.int .i64 t264) := (blk_cell BK262.out 0).trans rfl
                  have hcz115_1 : wc.cell? ⟨gb262, 1, none⟩ = some (.int .i64 t265) := (blk_cell BK262.out 1).trans rfl
                  have hcz115_2 : wc.cell? ⟨gb262, 2, none⟩ = some (.int .u8 t266) := (blk_cell BK262.out 2).trans rfl
                  have hcz115_3 : wc.cell? ⟨gb262, 3, none⟩ = some (u263003) := (blk_cell BK262.out 3).trans rfl
                  have hfz115_0 := blk_frozen BK262.out 0
                  have hfz115_1 := blk_frozen BK262.out 1
                  have hfz115_2 := blk_frozen BK262.out 2
                  have hfz115_3 := blk_frozen BK262.out 3
                  have hnb116 := NB261_263.out
                  have hnc116 := NB263_261.out
                  have hcz117_0 : wc.cell? ⟨gb261, 0, none⟩ = some (.int .i64 a0_0) := (blk_cell BK261.out 0).trans rfl
                  have hcz117_1 : wc.cell? ⟨gb261, 1, none⟩ = some (.int .i64 a0_1) := (blk_cell BK261.out 1).trans rfl
                  have hcz117_2 : wc.cell? ⟨gb261, 2, none⟩ = some (.bool false) := (blk_cell BK261.out 2).trans rfl
                  have hfz117_0 := blk_frozen BK261.out 0
                  have hfz117_1 := blk_frozen BK261.out 1
                  have hfz117_2 := blk_frozen BK261.out 2
                  obtain ⟨Ao118, co118, eo118⟩ := Kd.R_slice HO_263003.out
                  subst eo118
                  go_wp2_with (first | ((with_reducible refine gate_callee (f := 38) rfl ?_); refine gl_ (some 60) rfl rfl Try.func38 (by kernel_rfl) rfl #[.agg #[.int .i64 a0_0, .int .i64 a0_1, .bool false], .agg #[.int .i64 (wrap64 (t273 + t274)), .int .i64 t265, .int .u8 t266, .slice Ao118 x263003_35.length co118]] rfl ?_; (with_reducible refine (plan_status.calls kj35 a0_0 a0_1 false (wrap64 (t273 + t274)) t265 t266 _ _ x263003_35 t283 _ ?side1 ?side2 A108.out).mono ?_); (case side1 => refine (Kd.R_reads' (e := 33) (base := w.heap.size) (ok := fun k_ => True) (n := x263003_35.length) (c := co118) ?_).2.2; exact (by (with_reducible repeat (first | apply Kd.R_alloc | apply Kd.R_drewN | apply Kd.R_drew)); exact (Kd.R_mono (Kd.R_far (p := ⟨gb262, 0, none⟩) (Kd.R_types HO_263003.out BK262.out (by decide)) (fun _ hk => hk.2) (.int .i64 (wrap64 (t273 + t274)))) (fun _ h_ => h_.1)))); (case side2 => exact (Kd.R_reads' HO_263003.out).2.1); rintro e w119 ⟨rfl, hb⟩; refine ⟨_, rfl, ?_⟩; have n0_ := Aside0.mk (Kd.R_below (by (with_reducible repeat (first | apply Kd.R_alloc | apply Kd.R_drewN | apply Kd.R_drew)); exact (Kd.R_mono (Kd.R_far (p := ⟨gb262, 0, none⟩) (Kd.R_types HO_263003.out BK262.out (by decide)) (fun _ hk => hk.2) (.int .i64 (wrap64 (t273 + t274)))) (fun _ h_ => h_.1))) hb); have n1_ := Aside0.mk (blk_below (g := gb261) (o := .cells #[.int .i64 a0_0, .int .i64 a0_1, .bool false] 23 (0, 0)) (bp_ BK261) hb); have n2_ := Aside0.mk (blk_below (g := gb262) (o := .cells #[.int .i64 (wrap64 (t273 + t274)), .int .i64 t265, .int .u8 t266, .slice Ao118 x263003_35.length co118] 26 (0, 0)) (bp_ BK262) hb); have n3_ := Aside0.mk (blk_below (g := gb263) (o := .cells #[.int .i64 0, .int .i64 0, .int .u8 0, .slice none 0 0] 26 (0, 0)) (bp_ BK263) hb); have n4_ := Aside0.mk (blk_below (g := gb276) (o := .cells #[.int .i64 t272, .int .i64 t273, .int .i64 t274] 29 (0, 0)) (bp_ BK276) hb); have n5_ := bs_ HB hb; clear HO_263003; clear BK261; clear BK262; clear BK263; clear BK276; clear HB; have HO_263003 := n0_; have BK261 := n1_; have BK262 := n2_; have BK263 := n3_; have BK276 := n4_; have HB := n5_; clear n0_ n1_ n2_ n3_ n4_ n5_; (try clear hb); (try clear hb2); (try clear hk); (try clear hi); have hcz120_0 : w119.cell? ⟨gb262, 0, none⟩ = some (.int .i64 (wrap64 (t273 + t274))) := (blk_cell BK262.out 0).trans rfl; have hcz120_1 : w119.cell? ⟨gb262, 1, none⟩ = some (.int .i64 t265) := (blk_cell BK262.out 1).trans rfl; have hcz120_2 : w119.cell? ⟨gb262, 2, none⟩ = some (.int .u8 t266) := (blk_cell BK262.out 2).trans rfl; have hcz120_3 : w119.cell? ⟨gb262, 3, none⟩ = some (.slice Ao118 x263003_35.length co118) := (blk_cell BK262.out 3).trans rfl; have hfz120_0 := blk_frozen BK262.out 0; have hfz120_1 := blk_frozen BK262.out 1; have hfz120_2 := blk_frozen BK262.out 2; have hfz120_3 := blk_frozen BK262.out 3; have hcz121_0 : w119.cell? ⟨gb263, 0, none⟩ = some (.int .i64 0) := (blk_cell BK263.out 0).trans rfl; have hcz121_1 : w119.cell? ⟨gb263, 1, none⟩ = some (.int .i64 0) := (blk_cell BK263.out 1).trans rfl; have hcz121_2 : w119.cell? ⟨gb263, 2, none⟩ = some (.int .u8 0) := (blk_cell BK263.out 2).trans rfl; have hcz121_3 : w119.cell? ⟨gb263, 3, none⟩ = some (.slice none 0 0) := (blk_cell BK263.out 3).trans rfl; have hfz121_0 := blk_frozen BK263.out 0; have hfz121_1 := blk_frozen BK263.out 1; have hfz121_2 := blk_frozen BK263.out 2; have hfz121_3 := blk_frozen BK263.out 3))
                  refine bodyPost_ret (results_cell_row rfl _ _ gb263 26 #[.int .i64 (wrap64 (t273 + t274)), .int .i64 t265, .int .u8 t283, .slice Ao118 x263003_35.length co118] (0, 0) _ rfl (bp_ BK263) Try.underlying26 rfl (by kernel_rfl)) rfl ?_
                  exact ⟨_, by first | rfl | (simp [errW_none, errW_some] <;> rfl) | (simp [*, errW_none, errW_some] <;> rfl), by (with_reducible repeat (first | apply Kd.R_alloc | apply Kd.R_drewN | apply Kd.R_drew)); exact Kd.R_mono (Kd.R_far (p := ⟨gb263, 3, none⟩) (Kd.R_far (p := ⟨gb263, 2, none⟩) (Kd.R_far (p := ⟨gb263, 1, none⟩) (Kd.R_far (p := ⟨gb263, 0, none⟩) (Kd.R_far (p := ⟨gb262, 2, none⟩) (Kd.R_types (Kd.R_types HO_263003.out BK262.out (by decide)) BK263.out (by decide)) (fun _ hk => hk.1.2) (.int .u8 t283)) (fun _ hk => hk.2) (.int .i64 (wrap64 (t273 + t274)))) (fun _ hk => hk.2) (.int .i64 t265)) (fun _ hk => hk.2) (.int .u8 t283)) (fun _ hk => hk.2) (.slice Ao118 x263003_35.length co118)) (fun _ hk => trivial), bh_ HB⟩
            · rw [if_neg c62] at H
              have c62b0 : (t272 == 4) = false := beq_eq_false_iff_ne.mpr c62
              have c62b1 : (t272 != 4) = true := bne_iff_ne.mpr c62
              by_cases c122 : t275 = true
              · subst c122
                have H1 : ((plan_status.f kj35 a0_0 a0_1 a0_2 t264 (wrap64 (t265 + 1)) t266 x263003_35).bind fun t284 => (some (t264, wrap64 (t265 + 1), t284, x263003_35))) = some (r1, r2, r3, r4) := by rw [if_pos rfl] at H; exact H
                clear H
                have H := H1
                clear H1
                replace H := Option.bind_eq_some_iff.mp H
                obtain ⟨t284, A1230, H⟩ := H
                replace H : (some (t264, wrap64 (t265 + 1), t284, x263003_35)) = some (r1, r2, r3, r4) := H
                have A123 := Aside0.mk A1230
                clear A1230
                simp only [Option.some.injEq, Prod.mk.injEq] at H
                obtain ⟨rfl, rfl, rfl, rfl⟩ := H
                have hnb124 := NB276_261.out
                have hnc124 := NB261_276.out
                have hnb125 := NB276_262.out
                have hnc125 := NB262_276.out
                have hnb126 := NB276_263.out
                have hnc126 := NB263_276.out
                have hcz127_0 : wc.cell? ⟨gb276, 0, none⟩ = some (.int .i64 t272) := (blk_cell BK276.out 0).trans rfl
                have hcz127_1 : wc.cell? ⟨gb276, 1, none⟩ = some (.int .i64 t273) := (blk_cell BK276.out 1).trans rfl
                have hcz127_2 : wc.cell? ⟨gb276, 2, none⟩ = some (.int .i64 t274) := (blk_cell BK276.out 2).trans rfl
                have hfz127_0 := blk_frozen BK276.out 0
                have hfz127_1 := blk_frozen BK276.out 1
                have hfz127_2 := blk_frozen BK276.out 2
                have hnb128 := NB262_261.out
                have hnc128 := NB261_262.out
                have hnb129 := NB262_263.out
                have hnc129 := NB263_262.out
                have hcz130_0 : wc.cell? ⟨gb262, 0, none⟩ = some (.int .i64 t264) := (blk_cell BK262.out 0).trans rfl
                have hcz130_1 : wc.cell? ⟨gb262, 1, none⟩ = some (.int .i64 t265) := (blk_cell BK262.out 1).trans rfl
                have hcz130_2 : wc.cell? ⟨gb262, 2, none⟩ = some (.int .u8 t266) := (blk_cell BK262.out 2).trans rfl
                have hcz130_3 : wc.cell? ⟨gb262, 3, none⟩ = some (u263003) := (blk_cell BK262.out 3).trans rfl
                have hfz130_0 := blk_frozen BK262.out 0
                have hfz130_1 := blk_frozen BK262.out 1
                have hfz130_2 := blk_frozen BK262.out 2
                have hfz130_3 := blk_frozen BK262.out 3
                have hnb131 := NB261_263.out
                have hnc131 := NB263_261.out
                have hcz132_0 : wc.cell? ⟨gb261, 0, none⟩ = some (.int .i64 a0_0) := (blk_cell BK261.out 0).trans rfl
                have hcz132_1 : wc.cell? ⟨gb261, 1, none⟩ = some (.int .i64 a0_1) := (blk_cell BK261.out 1).trans rfl
                have hcz132_2 : wc.cell? ⟨gb261, 2, none⟩ = some (.bool a0_2) := (blk_cell BK261.out 2).trans rfl
                have hfz132_0 := blk_frozen BK261.out 0
                have hfz132_1 := blk_frozen BK261.out 1
                have hfz132_2 := blk_frozen BK261.out 2
                obtain ⟨Ao133, co133, eo133⟩ := Kd.R_slice HO_263003.out
                subst eo133
                go_wp2_with (first | ((with_reducible refine gate_callee (f := 38) rfl ?_); refine gl_ (some 60) rfl rfl Try.func38 (by kernel_rfl) rfl #[.agg #[.int .i64 a0_0, .int .i64 a0_1, .bool a0_2], .agg #[.int .i64 t264, .int .i64 (wrap64 (t265 + 1)), .int .u8 t266, .slice Ao133 x263003_35.length co133]] rfl ?_; (with_reducible refine (plan_status.calls kj35 a0_0 a0_1 a0_2 t264 (wrap64 (t265 + 1)) t266 _ _ x263003_35 t284 _ ?side1 ?side2 A123.out).mono ?_); (case side1 => refine (Kd.R_reads' (e := 33) (base := w.heap.size) (ok := fun k_ => True) (n := x263003_35.length) (c := co133) ?_).2.2; exact (by (with_reducible repeat (first | apply Kd.R_alloc | apply Kd.R_drewN | apply Kd.R_drew)); exact (Kd.R_mono (Kd.R_far (p := ⟨gb262, 1, none⟩) (Kd.R_types HO_263003.out BK262.out (by decide)) (fun _ hk => hk.2) (.int .i64 (wrap64 (t265 + 1)))) (fun _ h_ => h_.1)))); (case side2 => exact (Kd.R_reads' HO_263003.out).2.1); rintro e w134 ⟨rfl, hb⟩; refine ⟨_, rfl, ?_⟩; have n0_ := Aside0.mk (Kd.R_below (by (with_reducible repeat (first | apply Kd.R_alloc | apply Kd.R_drewN | apply Kd.R_drew)); exact (Kd.R_mono (Kd.R_far (p := ⟨gb262, 1, none⟩) (Kd.R_types HO_263003.out BK262.out (by decide)) (fun _ hk => hk.2) (.int .i64 (wrap64 (t265 + 1)))) (fun _ h_ => h_.1))) hb); have n1_ := Aside0.mk (blk_below (g := gb261) (o := .cells #[.int .i64 a0_0, .int .i64 a0_1, .bool a0_2] 23 (0, 0)) (bp_ BK261) hb); have n2_ := Aside0.mk (blk_below (g := gb262) (o := .cells #[.int .i64 t264, .int .i64 (wrap64 (t265 + 1)), .int .u8 t266, .slice Ao133 x263003_35.length co133] 26 (0, 0)) (bp_ BK262) hb); have n3_ := Aside0.mk (blk_below (g := gb263) (o := .cells #[.int .i64 0, .int .i64 0, .int .u8 0, .slice none 0 0] 26 (0, 0)) (bp_ BK263) hb); have n4_ := Aside0.mk (blk_below (g := gb276) (o := .cells #[.int .i64 t272, .int .i64 t273, .int .i64 t274] 29 (0, 0)) (bp_ BK276) hb); have n5_ := bs_ HB hb; clear HO_263003; clear BK261; clear BK262; clear BK263; clear BK276; clear HB; have HO_263003 := n0_; have BK261 := n1_; have BK262 := n2_; have BK263 := n3_; have BK276 := n4_; have HB := n5_; clear n0_ n1_ n2_ n3_ n4_ n5_; (try clear hb); (try clear hb2); (try clear hk); (try clear hi); have hcz135_0 : w134.cell? ⟨gb262, 0, none⟩ = some (.int .i64 t264) := (blk_cell BK262.out 0).trans rfl; have hcz135_1 : w134.cell? ⟨gb262, 1, none⟩ = some (.int .i64 (wrap64 (t265 + 1))) := (blk_cell BK262.out 1).trans rfl; have hcz135_2 : w134.cell? ⟨gb262, 2, none⟩ = some (.int .u8 t266) := (blk_cell BK262.out 2).trans rfl; have hcz135_3 : w134.cell? ⟨gb262, 3, none⟩ = some (.slice Ao133 x263003_35.length co133) := (blk_cell BK262.out 3).trans rfl; have hfz135_0 := blk_frozen BK262.out 0; have hfz135_1 := blk_frozen BK262.out 1; have hfz135_2 := blk_frozen BK262.out 2; have hfz135_3 := blk_frozen BK262.out 3; have hcz136_0 : w134.cell? ⟨gb263, 0, none⟩ = some (.int .i64 0) := (blk_cell BK263.out 0).trans rfl; have hcz136_1 : w134.cell? ⟨gb263, 1, none⟩ = some (.int .i64 0) := (blk_cell BK263.out 1).trans rfl; have hcz136_2 : w134.cell? ⟨gb263, 2, none⟩ = some (.int .u8 0) := (blk_cell BK263.out 2).trans rfl; have hcz136_3 : w134.cell? ⟨gb263, 3, none⟩ = some (.slice none 0 0) := (blk_cell BK263.out 3).trans rfl; have hfz136_0 := blk_frozen BK263.out 0; have hfz136_1 := blk_frozen BK263.out 1; have hfz136_2 := blk_frozen BK263.out 2; have hfz136_3 := blk_frozen BK263.out 3))
                refine bodyPost_ret (results_cell_row rfl _ _ gb263 26 #[.int .i64 t264, .int .i64 (wrap64 (t265 + 1)), .int .u8 t284, .slice Ao133 x263003_35.length co133] (0, 0) _ rfl (bp_ BK263) Try.underlying26 rfl (by kernel_rfl)) rfl ?_
                exact ⟨_, by first | rfl | (simp [errW_none, errW_some] <;> rfl) | (simp [*, errW_none, errW_some] <;> rfl), by (with_reducible repeat (first | apply Kd.R_alloc | apply Kd.R_drewN | apply Kd.R_drew)); exact Kd.R_mono (Kd.R_far (p := ⟨gb263, 3, none⟩) (Kd.R_far (p := ⟨gb263, 2, none⟩) (Kd.R_far (p := ⟨gb263, 1, none⟩) (Kd.R_far (p := ⟨gb263, 0, none⟩) (Kd.R_far (p := ⟨gb262, 2, none⟩) (Kd.R_types (Kd.R_types HO_263003.out BK262.out (by decide)) BK263.out (by decide)) (fun _ hk => hk.1.2) (.int .u8 t284)) (fun _ hk => hk.2) (.int .i64 t264)) (fun _ hk => hk.2) (.int .i64 (wrap64 (t265 + 1)))) (fun _ hk => hk.2) (.int .u8 t284)) (fun _ hk => hk.2) (.slice Ao133 x263003_35.length co133)) (fun _ hk => trivial), bh_ HB⟩
              · replace c122 := Bool.eq_false_iff.mpr c122
                subst c122
                have H1 : ((plan_status.f kj35 a0_0 a0_1 a0_2 t264 t265 t266 x263003_35).bind fun t285 => (some (t264, t265, t285, x263003_35))) = some (r1, r2, r3, r4) := by rw [if_neg (show ¬ (false = true) by decide)] at H; exact H
                clear H
                have H := H1
                clear H1
                replace H := Option.bind_eq_some_iff.mp H
                obtain ⟨t285, A1370, H⟩ := H
                replace H : (some (t264, t265, t285, x263003_35)) = some (r1, r2, r3, r4) := H
                have A137 := Aside0.mk A1370
                clear A1370
                simp only [Option.some.injEq, Prod.mk.injEq] at H
                obtain ⟨rfl, rfl, rfl, rfl⟩ := H
                have hnb138 := NB276_261.out
                have hnc138 := NB261_276.out
                have hnb139 := NB276_262.out
                have hnc139 := NB262_276.out
                have hnb140 := NB276_263.out
                have hnc140 := NB263_276.out
                have hcz141_0 : wc.cell? ⟨gb276, 0, none⟩ = some (.int .i64 t272) := (blk_cell BK276.out 0).trans rfl
                have hcz141_1 : wc.cell? ⟨gb276, 1, none⟩ = some (.int .i64 t273) := (blk_cell BK276.out 1).trans rfl
                have hcz141_2 : wc.cell? ⟨gb276, 2, none⟩ = some (.int .i64 t274) := (blk_cell BK276.out 2).trans rfl
                have hfz141_0 := blk_frozen BK276.out 0
                have hfz141_1 := blk_frozen BK276.out 1
                have hfz141_2 := blk_frozen BK276.out 2
                have hnb142 := NB261_262.out
                have hnc142 := NB262_261.out
                have hnb143 := NB261_263.out
                have hnc143 := NB263_261.out
                have hcz144_0 : wc.cell? ⟨gb261, 0, none⟩ = some (.int .i64 a0_0) := (blk_cell BK261.out 0).trans rfl
                have hcz144_1 : wc.cell? ⟨gb261, 1, none⟩ = some (.int .i64 a0_1) := (blk_cell BK261.out 1).trans rfl
                have hcz144_2 : wc.cell? ⟨gb261, 2, none⟩ = some (.bool a0_2) := (blk_cell BK261.out 2).trans rfl
                have hfz144_0 := blk_frozen BK261.out 0
                have hfz144_1 := blk_frozen BK261.out 1
                have hfz144_2 := blk_frozen BK261.out 2
                have hnb145 := NB262_263.out
                have hnc145 := NB263_262.out
                have hcz146_0 : wc.cell? ⟨gb262, 0, none⟩ = some (.int .i64 t264) := (blk_cell BK262.out 0).trans rfl
                have hcz146_1 : wc.cell? ⟨gb262, 1, none⟩ = some (.int .i64 t265) := (blk_cell BK262.out 1).trans rfl
                have hcz146_2 : wc.cell? ⟨gb262, 2, none⟩ = some (.int .u8 t266) := (blk_cell BK262.out 2).trans rfl
                have hcz146_3 : wc.cell? ⟨gb262, 3, none⟩ = some (u263003) := (blk_cell BK262.out 3).trans rfl
                have hfz146_0 := blk_frozen BK262.out 0
                have hfz146_1 := blk_frozen BK262.out 1
                have hfz146_2 := blk_frozen BK262.out 2
                have hfz146_3 := blk_frozen BK262.out 3
                obtain ⟨Ao147, co147, eo147⟩ := Kd.R_slice HO_263003.out
                subst eo147
                go_wp2_with (first | ((with_reducible refine gate_callee (f := 38) rfl ?_); refine gl_ (some 60) rfl rfl Try.func38 (by kernel_rfl) rfl #[.agg #[.int .i64 a0_0, .int .i64 a0_1, .bool a0_2], .agg #[.int .i64 t264, .int .i64 t265, .int .u8 t266, .slice Ao147 x263003_35.length co147]] rfl ?_; (with_reducible refine (plan_status.calls kj35 a0_0 a0_1 a0_2 t264 t265 t266 _ _ x263003_35 t285 _ ?side1 ?side2 A137.out).mono ?_); (case side1 => repeat (first | exact (Kd.R_reads' HO_263003.out).2.2 | (with_reducible refine Kd.C_alloc ?_ _) | (with_reducible refine Kd.C_drewN ?_ _) | (with_reducible refine Kd.C_drew ?_))); (case side2 => exact (Kd.R_reads' HO_263003.out).2.1); rintro e w148 ⟨rfl, hb⟩; refine ⟨_, rfl, ?_⟩; have n0_ := Aside0.mk (Kd.R_below (by (with_reducible repeat (first | apply Kd.R_alloc | apply Kd.R_drewN | apply Kd.R_drew)); exact HO_263003.out) hb); have n1_ := bb_ BK261 hb; have n2_ := bb_ BK262 hb; have n3_ := bb_ BK263 hb; have n4_ := bb_ BK276 hb; have n5_ := bs_ HB hb; clear HO_263003; clear BK261; clear BK262; clear BK263; clear BK276; clear HB; have HO_263003 := n0_; have BK261 := n1_; have BK262 := n2_; have BK263 := n3_; have BK276 := n4_; have HB := n5_; clear n0_ n1_ n2_ n3_ n4_ n5_; (try clear hb); (try clear hb2); (try clear hk); (try clear hi); have hcz149_0 : w148.cell? ⟨gb262, 0, none⟩ = some (.int .i64 t264) := (blk_cell BK262.out 0).trans rfl; have hcz149_1 : w148.cell? ⟨gb262, 1, none⟩ = some (.int .i64 t265) := (blk_cell BK262.out 1).trans rfl; have hcz149_2 : w148.cell? ⟨gb262, 2, none⟩ = some (.int .u8 t266) := (blk_cell BK262.out 2).trans rfl; have hcz149_3 : w148.cell? ⟨gb262, 3, none⟩ = some (.slice Ao147 x263003_35.length co147) := (blk_cell BK262.out 3).trans rfl; have hfz149_0 := blk_frozen BK262.out 0; have hfz149_1 := blk_frozen BK262.out 1; have hfz149_2 := blk_frozen BK262.out 2; have hfz149_3 := blk_frozen BK262.out 3; have hcz150_0 : w148.cell? ⟨gb263, 0, none⟩ = some (.int .i64 0) := (blk_cell BK263.out 0).trans rfl; have hcz150_1 : w148.cell? ⟨gb263, 1, none⟩ = some (.int .i64 0) := (blk_cell BK263.out 1).trans rfl; have hcz150_2 : w148.cell? ⟨gb263, 2, none⟩ = some (.int .u8 0) := (blk_cell BK263.out 2).trans rfl; have hcz150_3 : w148.cell? ⟨gb263, 3, none⟩ = some (.slice none 0 0) := (blk_cell BK263.out 3).trans rfl; have hfz150_0 := blk_frozen BK263.out 0; have hfz150_1 := blk_frozen BK263.out 1; have hfz150_2 := blk_frozen BK263.out 2; have hfz150_3 := blk_frozen BK263.out 3))
                refine bodyPost_ret (results_cell_row rfl _ _ gb263 26 #[.int .i64 t264, .int .i64 t265, .int .u8 t285, .slice Ao147 x263003_35.length co147] (0, 0) _ rfl (bp_ BK263) Try.underlying26 rfl (by kernel_rfl)) rfl ?_
                exact ⟨_, by first | rfl | (simp [errW_none, errW_some] <;> rfl) | (simp [*, errW_none, errW_some] <;> rfl), by (with_reducible repeat (first | apply Kd.R_alloc | apply Kd.R_drewN | apply Kd.R_drew)); exact Kd.R_mono (Kd.R_far (p := ⟨gb263, 3, none⟩) (Kd.R_far (p := ⟨gb263, 2, none⟩) (Kd.R_far (p := ⟨gb263, 1, none⟩) (Kd.R_far (p := ⟨gb263, 0, none⟩) (Kd.R_far (p := ⟨gb262, 2, none⟩) (Kd.R_types (Kd.R_types HO_263003.out BK262.out (by decide)) BK263.out (by decide)) (fun _ hk => hk.1.2) (.int .u8 t285)) (fun _ hk => hk.2) (.int .i64 t264)) (fun _ hk => hk.2) (.int .i64 t265)) (fun _ hk => hk.2) (.int .u8 t285)) (fun _ hk => hk.2) (.slice Ao147 x263003_35.length co147)) (fun _ hk => trivial), bh_ HB⟩

end Go.Proofs.Ytnoilinjlelpaaa.P
