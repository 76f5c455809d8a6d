/- Laid by a program of this session's own (wip/wprint.py, over the kit's print.py): functions of the given program as plain Lean functions, and that the program's calls come to their answers. -/
import Derived.Test.YtnoilinjlelpaaaPx0
import Derived.Test.YtnoilinjlelpaaaPx11
import Derived.Test.YtnoilinjlelpaaaPx14
import Derived.Test.YtnoilinjlelpaaaPx16
namespace Go.Proofs.Ytnoilinjlelpaaa.P
open Go.RowKit Go.Proofs.YtnoilinjlelpaaaW.PrintWords Go.Proofs.YtnoilinjlelpaaaW.PrintLast Go.Proofs.YtnoilinjlelpaaaW.PrintMore
attribute [local go_sem] max2_int min2_int max_two min_two max_three min_three max_four min_four   -- for this text's walks alone
set_option linter.unusedVariables false
set_option linter.unusedSimpArgs false

/-! ### plan_done: function 37 -/
def plan_done.f (k : Nat) (l0 : List (S33)) (a1_0 : Int) (a1_1 : Int) (a1_2 : Int) (a2 : Int) : Option ((List (S33))) := if a1_0 = 1 then ((region_Set.f k l0 a1_1 a2 43).bind fun t231 => ((region_Set.f k t231 (wrap64 (a1_1 + a2)) (wrap64 (a1_2 - a2)) 42).bind fun t234 => (some t234))) else (if a2 = a1_2 then ((region_Set.f k l0 a1_1 a1_2 43).bind fun t237 => (some t237)) else (if a1_0 = 2 then ((region_At.f k l0 a1_1).bind fun bt240 => ((region_Set.f k l0 bt240.1 bt240.2.1 47).bind fun t245 => ((region_Set.f k t245 a1_1 a1_2 45).bind fun t248 => (some t248)))) else ((region_Set.f k l0 a1_1 a1_2 45).bind fun t251 => (some t251))))
theorem plan_done.mono : ∀ a0 a1 a2 a3 a4 k, LeO (plan_done.f k a0 a1 a2 a3 a4) (plan_done.f (k + 1) a0 a1 a2 a3 a4) := by
 intro a0 a1 a2 a3 a4 k
 unfold plan_done.f
 repeat' first
   | (with_reducible exact region_At.mono _ _ _)
   | (with_reducible exact region_Set.mono _ _ _ _ _)
   | (with_reducible exact LeO.refl _)
   | (with_reducible exact LeO.none _)
   | (with_reducible refine LeO.ite ?_ ?_)
   | (with_reducible refine LeO.bind ?_ (fun _ => ?_))
   | exact region_At.mono _ _ _
   | exact region_Set.mono _ _ _ _ _
   | exact LeO.none _
   | refine LeO.ite ?_ ?_
   | refine LeO.bind ?_ (fun _ => ?_)
set_option maxHeartbeats 8000000 in
set_option maxRecDepth 100000 in
theorem plan_done.calls (k : Nat) (A0 : Option Addr) (c0 : Nat) (l0 : List (S33)) (a1_0 : Int) (a1_1 : Int) (a1_2 : Int) (a2 : Int) (r : List (S33)) (w : World) (hr0 : Kd.C k33 w A0 l0.length l0) (hc0 : l0.length ≤ c0) (h : plan_done.f k l0 a1_0 a1_1 a1_2 a2 = some r) :
  Calls Try.prog 37 #[.slice A0 l0.length c0, .agg #[.int .i64 a1_0, .int .i64 a1_1, .int .i64 a1_2], .int .i64 a2] w fun e w' => ∃ v0_ : Value, e = .returned (v0_) ∧ Kd.R k33 33 w' w.heap.size (fun _ => True) v0_ r ∧ Below w.heap.size w w' := by
 have hu29 := Try.underlying29
 have hu33 := Try.underlying33
 have HR0 := Aside0.mk hr0
 have HC0 := Aside0.mk hc0
 clear hr0 hc0
 have HB := Aside0.mk (Below.refl w.heap.size w)
 have H : (if a1_0 = 1 then ((region_Set.f k l0 a1_1 a2 43).bind fun t231 => ((region_Set.f k t231 (wrap64 (a1_1 + a2)) (wrap64 (a1_2 - a2)) 42).bind fun t234 => (some t234))) else (if a2 = a1_2 then ((region_Set.f k l0 a1_1 a1_2 43).bind fun t237 => (some t237)) else (if a1_0 = 2 then ((region_At.f k l0 a1_1).bind fun bt240 => ((region_Set.f k l0 bt240.1 bt240.2.1 47).bind fun t245 => ((region_Set.f k t245 a1_1 a1_2 45).bind fun t248 => (some t248)))) else ((region_Set.f k l0 a1_1 a1_2 45).bind fun t251 => (some t251))))) = some r := h
 clear h
 by_cases c4 : a1_0 = 1
 ·rw [if_pos c4] at H
  have c4b0 : (a1_0 == 1) = true := beq_iff_eq.mpr c4
  have c4b1 : (a1_0 != 1) = false := bne_eq_false_iff_eq.mpr c4
  clear c4
  replace H := Option.bind_eq_some_iff.mp H
  obtain ⟨t231, A50, H⟩ := H
  replace H : ((region_Set.f k t231 (wrap64 (a1_1 + a2)) (wrap64 (a1_2 - a2)) 42).bind fun t234 => (some t234)) = some r := H
  have A5 := Aside0.mk A50
  clear A50
  replace H := Option.bind_eq_some_iff.mp H
  obtain ⟨t234, A60, H⟩ := H
  replace H : (some t234) = some r := H
  have A6 := Aside0.mk A60
  clear A60
  obtain rfl := Option.some.inj H
  go_enter Try.func37, Try.ntmps37
  go_wp2_with (first | ((with_reducible refine gate_dst (N := 4) rfl ?_); refine box_e 4 #[.int .i64 a1_0, .int .i64 a1_1, .int .i64 a1_2] 29 ?_; intro gb230 hg w7 hbox hb; have BK230 := Aside0.mk hbox; have GW230 := bg_ HB hg; have GE230 := bg_ HB hg; replace HB := bs_ HB hb; clear hb hbox hg; obtain ⟨hcz8_0, hcz8_1, hcz8_2, hfz8_0, hfz8_1, hfz8_2⟩ := c3_ BK230) | ((with_reducible refine gate_callee (f := 33) rfl ?_); refine gl_ (some 17) rfl rfl Try.func33 (by kernel_rfl) rfl #[.slice A0 l0.length c0, .int .i64 a1_1, .int .i64 a2, .int .u8 43] rfl ?_; (with_reducible refine (region_Set.calls k _ _ l0 a1_1 a2 43 t231 _ ?side1 ?side2 A5.out).mono ?_); (case side1 => exact cb_ HR0 HB); (case side2 => exact HC0.out); rintro e w9 ⟨v232, rfl, ho0, hb⟩; refine ⟨_, rfl, ?_⟩; have HO233 := Aside0.mk (Kd.R_lower ho0 (below_size (bh_ HB))); replace BK230 := bb_ BK230 hb; replace HB := bs_ HB hb; (try clear hb); (try clear hb2); (try clear hk); (try clear hi); (try clear ho0); obtain ⟨hcz10_0, hcz10_1, hcz10_2, hfz10_0, hfz10_1, hfz10_2⟩ := c3_ BK230; obtain ⟨Ao11, co11, eo11⟩ := Kd.R_slice HO233.out; subst eo11) | ((with_reducible refine gate_callee (f := 33) rfl ?_); refine gl_ (some 27) rfl rfl Try.func33 (by kernel_rfl) rfl #[.slice Ao11 t231.length co11, .int .i64 (wrap64 (a1_1 + a2)), .int .i64 (wrap64 (a1_2 - a2)), .int .u8 42] rfl ?_; (with_reducible refine (region_Set.calls k _ _ t231 (wrap64 (a1_1 + a2)) (wrap64 (a1_2 - a2)) 42 t234 _ ?side1 ?side2 A6.out).mono ?_); (case side1 => repeat (first | exact (Kd.R_reads' HO233.out).2.2 | (with_reducible refine Kd.C_alloc ?_ _) | (with_reducible refine Kd.C_drewN ?_ _) | (with_reducible refine Kd.C_drew ?_))); (case side2 => exact (Kd.R_reads' HO233.out).2.1); rintro e w12 ⟨v235, rfl, ho0, hb⟩; refine ⟨_, rfl, ?_⟩; have n0_ := Aside0.mk (Kd.R_elder' (by (with_reducible repeat (first | apply Kd.R_alloc | apply Kd.R_drewN | apply Kd.R_drew)); exact HO233.out) (Kd.R_base ho0) hb); have n1_ := Aside0.mk (Kd.R_lower (Kd.R_new' ho0 (Kd.R_lt (by (with_reducible repeat (first | apply Kd.R_alloc | apply Kd.R_drewN | apply Kd.R_drew)); exact HO233.out))) (below_size (bh_ HB))); have n2_ := bb_ BK230 hb; have n3_ := bs_ HB hb; clear HO233; clear BK230; clear HB; have HO233 := n0_; have HO236 := n1_; have BK230 := n2_; have HB := n3_; clear n0_ n1_ n2_ n3_; (try clear hb); (try clear hb2); (try clear hk); (try clear hi); (try clear ho0)))
  go_ret
  exact ⟨_, by first | rfl | (simp [errW_none, errW_some] <;> rfl) | (simp [*, errW_none, errW_some] <;> rfl), by (with_reducible repeat (first | apply Kd.R_alloc | apply Kd.R_drewN | apply Kd.R_drew)); exact Kd.R_mono HO236.out (fun _ hk => trivial), bh_ HB⟩
 ·rw [if_neg c4] at H
  have c4b0 : (a1_0 == 1) = false := beq_eq_false_iff_ne.mpr c4
  have c4b1 : (a1_0 != 1) = true := bne_iff_ne.mpr c4
  by_cases c13 : a2 = a1_2
  ·rw [if_pos c13] at H
   have c13b0 : (a2 == a1_2) = true := beq_iff_eq.mpr c13
   have c13b1 : (a2 != a1_2) = false := bne_eq_false_iff_eq.mpr c13
   clear c13
   replace H := Option.bind_eq_some_iff.mp H
   obtain ⟨t237, A140, H⟩ := H
   replace H : (some t237) = some r := H
   have A14 := Aside0.mk A140
   clear A140
   obtain rfl := Option.some.inj H
   go_enter Try.func37, Try.ntmps37
   go_wp2_with (first | ((with_reducible refine gate_dst (N := 4) rfl ?_); refine box_e 4 #[.int .i64 a1_0, .int .i64 a1_1, .int .i64 a1_2] 29 ?_; intro gb230 hg w15 hbox hb; have BK230 := Aside0.mk hbox; have GW230 := bg_ HB hg; have GE230 := bg_ HB hg; replace HB := bs_ HB hb; clear hb hbox hg; obtain ⟨hcz16_0, hcz16_1, hcz16_2, hfz16_0, hfz16_1, hfz16_2⟩ := c3_ BK230) | ((with_reducible refine gate_callee (f := 33) rfl ?_); refine gl_ (some 38) rfl rfl Try.func33 (by kernel_rfl) rfl #[.slice A0 l0.length c0, .int .i64 a1_1, .int .i64 a1_2, .int .u8 43] rfl ?_; (with_reducible refine (region_Set.calls k _ _ l0 a1_1 a1_2 43 t237 _ ?side1 ?side2 A14.out).mono ?_); (case side1 => exact cb_ HR0 HB); (case side2 => exact HC0.out); rintro e w17 ⟨v238, rfl, ho0, hb⟩; refine ⟨_, rfl, ?_⟩; have HO239 := Aside0.mk (Kd.R_lower ho0 (below_size (bh_ HB))); replace BK230 := bb_ BK230 hb; replace HB := bs_ HB hb; (try clear hb); (try clear hb2); (try clear hk); (try clear hi); (try clear ho0)))
   go_ret
   exact ⟨_, by first | rfl | (simp [errW_none, errW_some] <;> rfl) | (simp [*, errW_none, errW_some] <;> rfl), by (with_reducible repeat (first | apply Kd.R_alloc | apply Kd.R_drewN | apply Kd.R_drew)); exact HO239.out, bh_ HB⟩
  ·rw [if_neg c13] at H
   have c13b0 : (a2 == a1_2) = false := beq_eq_false_iff_ne.mpr c13
   have c13b1 : (a2 != a1_2) = true := bne_iff_ne.mpr c13
   by_cases c18 : a1_0 = 2
   ·rw [if_pos c18] at H
    have c18b0 : (a1_0 == 2) = true := beq_iff_eq.mpr c18
    have c18b1 : (a1_0 != 2) = false := bne_eq_false_iff_eq.mpr c18
    clear c18
    replace H := Option.bind_eq_some_iff.mp H
    obtain ⟨⟨t240, t241, t242, t243⟩, A190, H⟩ := H
    replace H : ((region_Set.f k l0 t240 t241 47).bind fun t245 => ((region_Set.f k t245 a1_1 a1_2 45).bind fun t248 => (some t248))) = some r := H
    have A19 := Aside0.mk A190
    clear A190
    replace H := Option.bind_eq_some_iff.mp H
    obtain ⟨t245, A200, H⟩ := H
    replace H : ((region_Set.f k t245 a1_1 a1_2 45).bind fun t248 => (some t248)) = some r := H
    have A20 := Aside0.mk A200
    clear A200
    replace H := Option.bind_eq_some_iff.mp H
    obtain ⟨t248, A210, H⟩ := H
    replace H : (some t248) = some r := H
    have A21 := Aside0.mk A210
    clear A210
    obtain rfl := Option.some.inj H
    go_enter Try.func37, Try.ntmps37
    go_wp2_with (first | ((with_reducible refine gate_dst (N := 4) rfl ?_); refine box_e 4 #[.int .i64 a1_0, .int .i64 a1_1, .int .i64 a1_2] 29 ?_; intro gb230 hg w22 hbox hb; have BK230 := Aside0.mk hbox; have GW230 := bg_ HB hg; have GE230 := bg_ HB hg; replace HB := bs_ HB hb; clear hb hbox hg; obtain ⟨hcz23_0, hcz23_1, hcz23_2, hfz23_0, hfz23_1, hfz23_2⟩ := c3_ BK230) | ((with_reducible refine gate_callee (f := 20) rfl ?_); refine gl_ (some 47) rfl rfl Try.func20 (by kernel_rfl) rfl #[.slice A0 l0.length c0, .int .i64 a1_1] rfl ?_; (with_reducible refine (region_At.calls k _ _ l0 a1_1 t240 t241 t242 t243 _ ?side1 ?side2 A19.out).mono ?_); (case side1 => exact cb_ HR0 HB); (case side2 => exact HC0.out); rintro e w24 ⟨rfl, hb⟩; refine ⟨_, rfl, ?_⟩; replace BK230 := bb_ BK230 hb; replace HB := bs_ HB hb; (try clear hb)) | ((with_reducible refine gate_dst (N := 7) rfl ?_); refine box_e 7 #[.int .i64 0, .int .i64 0, .int .u8 0] 33 ?_; intro gb244 hg w25 hbox hb; have BK244 := Aside0.mk hbox; have GW244 := bg_ HB hg; have GE244 := bg_ HB hg; have NB230_244 := bn_ BK230 hg; have NB244_230 := bm_ BK230 hg; replace BK230 := bb_ BK230 hb; replace HB := bs_ HB hb; clear hb hbox hg; have hnb26 := NB244_230.out; have hnc26 := NB230_244.out; obtain ⟨hcz27_0, hcz27_1, hcz27_2, hfz27_0, hfz27_1, hfz27_2⟩ := c3_ BK244) | ((with_reducible refine gate_callee (f := 33) rfl ?_); refine gl_ (some 55) rfl rfl Try.func33 (by kernel_rfl) rfl #[.slice A0 l0.length c0, .int .i64 t240, .int .i64 t241, .int .u8 47] rfl ?_; (with_reducible refine (region_Set.calls k _ _ l0 t240 t241 47 t245 _ ?side1 ?side2 A20.out).mono ?_); (case side1 => exact Kd.C_below HR0.out (bh_ HB)); (case side2 => exact HC0.out); rintro e w28 ⟨v246, rfl, ho0, hb⟩; refine ⟨_, rfl, ?_⟩; have HO247 := Aside0.mk (Kd.R_lower (Kd.R_newB ho0 (g := gb244) (o := .cells #[.int .i64 t240, .int .i64 t241, .int .u8 t242] 33 (0, 0)) (bp_ BK244)) (below_size (bh_ HB))); replace BK230 := Aside0.mk (blk_below (g := gb230) (o := .cells #[.int .i64 a1_0, .int .i64 a1_1, .int .i64 a1_2] 29 (0, 0)) (bp_ BK230) hb); replace BK244 := Aside0.mk (blk_below (g := gb244) (o := .cells #[.int .i64 t240, .int .i64 t241, .int .u8 t242] 33 (0, 0)) (bp_ BK244) hb); replace HB := bs_ HB hb; (try clear hb); (try clear hb2); (try clear hk); (try clear hi); (try clear ho0); obtain ⟨hcz29_0, hcz29_1, hcz29_2, hfz29_0, hfz29_1, hfz29_2⟩ := c3_ BK230; obtain ⟨Ao30, co30, eo30⟩ := Kd.R_slice HO247.out; subst eo30) | ((with_reducible refine gate_callee (f := 33) rfl ?_); refine gl_ (some 61) rfl rfl Try.func33 (by kernel_rfl) rfl #[.slice Ao30 t245.length co30, .int .i64 a1_1, .int .i64 a1_2, .int .u8 45] rfl ?_; (with_reducible refine (region_Set.calls k _ _ t245 a1_1 a1_2 45 t248 _ ?side1 ?side2 A21.out).mono ?_); (case side1 => repeat (first | exact (Kd.R_reads' HO247.out).2.2 | (with_reducible refine Kd.C_alloc ?_ _) | (with_reducible refine Kd.C_drewN ?_ _) | (with_reducible refine Kd.C_drew ?_))); (case side2 => exact (Kd.R_reads' HO247.out).2.1); rintro e w31 ⟨v249, rfl, ho0, hb⟩; refine ⟨_, rfl, ?_⟩; have n0_ := Aside0.mk (Kd.R_elder' (by (with_reducible repeat (first | apply Kd.R_alloc | apply Kd.R_drewN | apply Kd.R_drew)); exact HO247.out) (Kd.R_base ho0) hb); have n1_ := Aside0.mk (Kd.R_lower (Kd.R_newB (Kd.R_new' ho0 (Kd.R_lt (by (with_reducible repeat (first | apply Kd.R_alloc | apply Kd.R_drewN | apply Kd.R_drew)); exact HO247.out))) (g := gb244) (o := .cells #[.int .i64 t240, .int .i64 t241, .int .u8 t242] 33 (0, 0)) (bq_ BK244)) (below_size (bh_ HB))); have n2_ := bb_ BK230 hb; have n3_ := bb_ BK244 hb; have n4_ := bs_ HB hb; clear HO247; clear BK230; clear BK244; clear HB; have HO247 := n0_; have HO250 := n1_; have BK230 := n2_; have BK244 := n3_; have HB := n4_; clear n0_ n1_ n2_ n3_ n4_; (try clear hb); (try clear hb2); (try clear hk); (try clear hi); (try clear ho0)))
    go_ret
    exact ⟨_, by first | rfl | (simp [errW_none, errW_some] <;> rfl) | (simp [*, errW_none, errW_some] <;> rfl), by (with_reducible repeat (first | apply Kd.R_alloc | apply Kd.R_drewN | apply Kd.R_drew)); exact Kd.R_mono HO250.out (fun _ hk => trivial), bh_ HB⟩
   ·rw [if_neg c18] at H
    have c18b0 : (a1_0 == 2) = false := beq_eq_false_iff_ne.mpr c18
    have c18b1 : (a1_0 != 2) = true := bne_iff_ne.mpr c18
    replace H := Option.bind_eq_some_iff.mp H
    obtain ⟨t251, A320, H⟩ := H
    replace H : (some t251) = some r := H
    have A32 := Aside0.mk A320
    clear A320
    obtain rfl := Option.some.inj H
    go_enter Try.func37, Try.ntmps37
    go_wp2_with (first | ((with_reducible refine gate_dst (N := 4) rfl ?_); refine box_e 4 #[.int .i64 a1_0, .int .i64 a1_1, .int .i64 a1_2] 29 ?_; intro gb230 hg w33 hbox hb; have BK230 := Aside0.mk hbox; have GW230 := bg_ HB hg; have GE230 := bg_ HB hg; replace HB := bs_ HB hb; clear hb hbox hg; obtain ⟨hcz34_0, hcz34_1, hcz34_2, hfz34_0, hfz34_1, hfz34_2⟩ := c3_ BK230) | ((with_reducible refine gate_callee (f := 33) rfl ?_); refine gl_ (some 61) rfl rfl Try.func33 (by kernel_rfl) rfl #[.slice A0 l0.length c0, .int .i64 a1_1, .int .i64 a1_2, .int .u8 45] rfl ?_; (with_reducible refine (region_Set.calls k _ _ l0 a1_1 a1_2 45 t251 _ ?side1 ?side2 A32.out).mono ?_); (case side1 => exact cb_ HR0 HB); (case side2 => exact HC0.out); rintro e w35 ⟨v252, rfl, ho0, hb⟩; refine ⟨_, rfl, ?_⟩; have HO253 := Aside0.mk (Kd.R_lower ho0 (below_size (bh_ HB))); replace BK230 := bb_ BK230 hb; replace HB := bs_ HB hb; (try clear hb); (try clear hb2); (try clear hk); (try clear hi); (try clear ho0)))
    go_ret
    exact ⟨_, by first | rfl | (simp [errW_none, errW_some] <;> rfl) | (simp [*, errW_none, errW_some] <;> rfl), by (with_reducible repeat (first | apply Kd.R_alloc | apply Kd.R_drewN | apply Kd.R_drew)); exact HO253.out, bh_ HB⟩

/-! ### plan_status: function 38 -/
def plan_status.f (k : Nat) (a0_0 : Int) (a0_1 : Int) (a0_2 : Bool) (a1_0 : Int) (a1_1 : Int) (a1_2 : Int) (l1_3 : List (S33)) : Option (Int) := (plan_next.f k a0_0 a0_1 a0_2 a1_0 a1_1 a1_2 l1_3).bind fun bt256 => (if bt256.1 = 1 then (some 63) else (if bt256.1 = 2 then (some 42) else (if bt256.1 = 3 then (some 47) else (if bt256.1 = 4 then (some 45) else (some 43)))))
theorem plan_status.mono : ∀ a0 a1 a2 a3 a4 a5 a6 k, LeO (plan_status.f k a0 a1 a2 a3 a4 a5 a6) (plan_status.f (k + 1) a0 a1 a2 a3 a4 a5 a6) := by
 intro a0 a1 a2 a3 a4 a5 a6 k
 unfold plan_status.f
 repeat' first
   | (with_reducible exact plan_next.mono _ _ _ _ _ _ _ _)
   | (with_reducible exact LeO.refl _)
   | (with_reducible exact LeO.none _)
   | (with_reducible refine LeO.ite ?_ ?_)
   | (with_reducible refine LeO.bind ?_ (fun _ => ?_))
   | exact plan_next.mono _ _ _ _ _ _ _ _
   | exact LeO.none _
   | refine LeO.ite ?_ ?_
   | refine LeO.bind ?_ (fun _ => ?_)
set_option maxHeartbeats 8000000 in
set_option maxRecDepth 100000 in
theorem plan_status.calls (k : Nat) (a0_0 : Int) (a0_1 : Int) (a0_2 : Bool) (a1_0 : Int) (a1_1 : Int) (a1_2 : Int) (A1_3 : Option Addr) (c1_3 : Nat) (l1_3 : List (S33)) (r : Int) (w : World) (hr1_3 : Kd.C k33 w A1_3 l1_3.length l1_3) (hc1_3 : l1_3.length ≤ c1_3) (h : plan_status.f k a0_0 a0_1 a0_2 a1_0 a1_1 a1_2 l1_3 = some r) :
  Calls Try.prog 38 #[.agg #[.int .i64 a0_0, .int .i64 a0_1, .bool a0_2], .agg #[.int .i64 a1_0, .int .i64 a1_1, .int .u8 a1_2, .slice A1_3 l1_3.length c1_3]] w fun e w' => e = .returned (.int .u8 r) ∧ Below w.heap.size w w' := by
 have hu23 := Try.underlying23
 have hu26 := Try.underlying26
 have hu29 := Try.underlying29
 have HR1_3 := Aside0.mk hr1_3
 have HC1_3 := Aside0.mk hc1_3
 clear hr1_3 hc1_3
 have HB := Aside0.mk (Below.refl w.heap.size w)
 have H : ((plan_next.f k a0_0 a0_1 a0_2 a1_0 a1_1 a1_2 l1_3).bind fun bt256 => (if bt256.1 = 1 then (some 63) else (if bt256.1 = 2 then (some 42) else (if bt256.1 = 3 then (some 47) else (if bt256.1 = 4 then (some 45) else (some 43)))))) = some r := h
 clear h
 replace H := Option.bind_eq_some_iff.mp H
 obtain ⟨⟨t256, t257, t258, t259⟩, A30, H⟩ := H
 replace H : (if t256 = 1 then (some 63) else (if t256 = 2 then (some 42) else (if t256 = 3 then (some 47) else (if t256 = 4 then (some 45) else (some 43))))) = some r := H
 have A3 := Aside0.mk A30
 clear A30
 by_cases c4 : t256 = 1
 ·rw [if_pos c4] at H
  have c4b0 : (t256 == 1) = true := beq_iff_eq.mpr c4
  have c4b1 : (t256 != 1) = false := bne_eq_false_iff_eq.mpr c4
  clear c4
  obtain rfl := Option.some.inj H
  go_enter Try.func38, Try.ntmps38
  go_wp2_with (first | ((with_reducible refine gate_dst (N := 2) rfl ?_); refine box_e 2 #[.int .i64 a0_0, .int .i64 a0_1, .bool a0_2] 23 ?_; intro gb254 hg w5 hbox hb; have BK254 := Aside0.mk hbox; have GW254 := bg_ HB hg; have GE254 := bg_ HB hg; replace HB := bs_ HB hb; clear hb hbox hg) | ((with_reducible refine gate_dst (N := 3) rfl ?_); refine box_e 3 #[.int .i64 a1_0, .int .i64 a1_1, .int .u8 a1_2, .slice A1_3 l1_3.length c1_3] 26 ?_; intro gb255 hg w6 hbox hb; have BK255 := Aside0.mk hbox; have GW255 := bg_ HB hg; have GE255 := bg_ HB hg; have NB254_255 := bn_ BK254 hg; have NB255_254 := bm_ BK254 hg; replace BK254 := bb_ BK254 hb; replace HB := bs_ HB hb; clear hb hbox hg; have hnb7 := NB254_255.out; have hnc7 := NB255_254.out; obtain ⟨hcz8_0, hcz8_1, hcz8_2, hfz8_0, hfz8_1, hfz8_2⟩ := c3_ BK254; obtain ⟨hcz9_0, hcz9_1, hcz9_2, hcz9_3, hfz9_0, hfz9_1, hfz9_2, hfz9_3⟩ := c4_ BK255) | ((with_reducible refine gate_callee (f := 35) rfl ?_); refine gl_ (some 10) rfl rfl Try.func35 (by kernel_rfl) rfl #[.agg #[.int .i64 a0_0, .int .i64 a0_1, .bool a0_2], .agg #[.int .i64 a1_0, .int .i64 a1_1, .int .u8 a1_2, .slice A1_3 l1_3.length c1_3]] rfl ?_; (with_reducible refine (plan_next.calls k a0_0 a0_1 a0_2 a1_0 a1_1 a1_2 _ _ l1_3 t256 t257 t258 t259 _ ?side1 ?side2 A3.out).mono ?_); (case side1 => exact cb_ HR1_3 HB); (case side2 => exact HC1_3.out); rintro e w10 ⟨rfl, hb⟩; refine ⟨_, rfl, ?_⟩; replace BK254 := bb_ BK254 hb; replace BK255 := bb_ BK255 hb; replace HB := bs_ HB hb; (try clear hb)) | ((with_reducible refine gate_dst (N := 5) rfl ?_); refine box_e 5 #[.int .i64 0, .int .i64 0, .int .i64 0] 29 ?_; intro gb260 hg w11 hbox hb; have BK260 := Aside0.mk hbox; have GW260 := bg_ HB hg; have GE260 := bg_ HB hg; have NB254_260 := bn_ BK254 hg; have NB260_254 := bm_ BK254 hg; have NB255_260 := bn_ BK255 hg; have NB260_255 := bm_ BK255 hg; replace BK254 := bb_ BK254 hb; replace BK255 := bb_ BK255 hb; replace HB := bs_ HB hb; clear hb hbox hg; have hnb12 := NB260_254.out; have hnc12 := NB254_260.out; have hnb13 := NB260_255.out; have hnc13 := NB255_260.out; obtain ⟨hcz14_0, hcz14_1, hcz14_2, hfz14_0, hfz14_1, hfz14_2⟩ := c3_ BK260))
  go_ret
  exact ⟨by first | rfl | (simp [errW_none, errW_some] <;> rfl) | (simp [*, errW_none, errW_some] <;> rfl), bh_ HB⟩
 ·rw [if_neg c4] at H
  have c4b0 : (t256 == 1) = false := beq_eq_false_iff_ne.mpr c4
  have c4b1 : (t256 != 1) = true := bne_iff_ne.mpr c4
  by_cases c15 : t256 = 2
  ·rw [if_pos c15] at H
   have c15b0 : (t256 == 2) = true := beq_iff_eq.mpr c15
   have c15b1 : (t256 != 2) = false := bne_eq_false_iff_eq.mpr c15
   clear c15
   obtain rfl := Option.some.inj H
   go_enter Try.func38, Try.ntmps38
   go_wp2_with (first | ((with_reducible refine gate_dst (N := 2) rfl ?_); refine box_e 2 #[.int .i64 a0_0, .int .i64 a0_1, .bool a0_2] 23 ?_; intro gb254 hg w16 hbox hb; have BK254 := Aside0.mk hbox; have GW254 := bg_ HB hg; have GE254 := bg_ HB hg; replace HB := bs_ HB hb; clear hb hbox hg) | ((with_reducible refine gate_dst (N := 3) rfl ?_); refine box_e 3 #[.int .i64 a1_0, .int .i64 a1_1, .int .u8 a1_2, .slice A1_3 l1_3.length c1_3] 26 ?_; intro gb255 hg w17 hbox hb; have BK255 := Aside0.mk hbox; have GW255 := bg_ HB hg; have GE255 := bg_ HB hg; have NB254_255 := bn_ BK254 hg; have NB255_254 := bm_ BK254 hg; replace BK254 := bb_ BK254 hb; replace HB := bs_ HB hb; clear hb hbox hg; have hnb18 := NB254_255.out; have hnc18 := NB255_254.out; obtain ⟨hcz19_0, hcz19_1, hcz19_2, hfz19_0, hfz19_1, hfz19_2⟩ := c3_ BK254; obtain ⟨hcz20_0, hcz20_1, hcz20_2, hcz20_3, hfz20_0, hfz20_1, hfz20_2, hfz20_3⟩ := c4_ BK255) | ((with_reducible refine gate_callee (f := 35) rfl ?_); refine gl_ (some 10) rfl rfl Try.func35 (by kernel_rfl) rfl #[.agg #[.int .i64 a0_0, .int .i64 a0_1, .bool a0_2], .agg #[.int .i64 a1_0, .int .i64 a1_1, .int .u8 a1_2, .slice A1_3 l1_3.length c1_3]] rfl ?_; (with_reducible refine (plan_next.calls k a0_0 a0_1 a0_2 a1_0 a1_1 a1_2 _ _ l1_3 t256 t257 t258 t259 _ ?side1 ?side2 A3.out).mono ?_); (case side1 => exact cb_ HR1_3 HB); (case side2 => exact HC1_3.out); rintro e w21 ⟨rfl, hb⟩; refine ⟨_, rfl, ?_⟩; replace BK254 := bb_ BK254 hb; replace BK255 := bb_ BK255 hb; replace HB := bs_ HB hb; (try clear hb)) | ((with_reducible refine gate_dst (N := 5) rfl ?_); refine box_e 5 #[.int .i64 0, .int .i64 0, .int .i64 0] 29 ?_; intro gb260 hg w22 hbox hb; have BK260 := Aside0.mk hbox; have GW260 := bg_ HB hg; have GE260 := bg_ HB hg; have NB254_260 := bn_ BK254 hg; have NB260_254 := bm_ BK254 hg; have NB255_260 := bn_ BK255 hg; have NB260_255 := bm_ BK255 hg; replace BK254 := bb_ BK254 hb; replace BK255 := bb_ BK255 hb; replace HB := bs_ HB hb; clear hb hbox hg; have hnb23 := NB260_254.out; have hnc23 := NB254_260.out; have hnb24 := NB260_255.out; have hnc24 := NB255_260.out; obtain ⟨hcz25_0, hcz25_1, hcz25_2, hfz25_0, hfz25_1, hfz25_2⟩ := c3_ BK260))
   go_ret
   exact ⟨by first | rfl | (simp [errW_none, errW_some] <;> rfl) | (simp [*, errW_none, errW_some] <;> rfl), bh_ HB⟩
  ·rw [if_neg c15] at H
   have c15b0 : (t256 == 2) = false := beq_eq_false_iff_ne.mpr c15
   have c15b1 : (t256 != 2) = true := bne_iff_ne.mpr c15
   by_cases c26 : t256 = 3
   ·rw [if_pos c26] at H
    have c26b0 : (t256 == 3) = true := beq_iff_eq.mpr c26
    have c26b1 : (t256 != 3) = false := bne_eq_false_iff_eq.mpr c26
    clear c26
    obtain rfl := Option.some.inj H
    go_enter Try.func38, Try.ntmps38
    go_wp2_with (first | ((with_reducible refine gate_dst (N := 2) rfl ?_); refine box_e 2 #[.int .i64 a0_0, .int .i64 a0_1, .bool a0_2] 23 ?_; intro gb254 hg w27 hbox hb; have BK254 := Aside0.mk hbox; have GW254 := bg_ HB hg; have GE254 := bg_ HB hg; replace HB := bs_ HB hb; clear hb hbox hg) | ((with_reducible refine gate_dst (N := 3) rfl ?_); refine box_e 3 #[.int .i64 a1_0, .int .i64 a1_1, .int .u8 a1_2, .slice A1_3 l1_3.length c1_3] 26 ?_; intro gb255 hg w28 hbox hb; have BK255 := Aside0.mk hbox; have GW255 := bg_ HB hg; have GE255 := bg_ HB hg; have NB254_255 := bn_ BK254 hg; have NB255_254 := bm_ BK254 hg; replace BK254 := bb_ BK254 hb; replace HB := bs_ HB hb; clear hb hbox hg; have hnb29 := NB254_255.out; have hnc29 := NB255_254.out; obtain ⟨hcz30_0, hcz30_1, hcz30_2, hfz30_0, hfz30_1, hfz30_2⟩ := c3_ BK254; obtain ⟨hcz31_0, hcz31_1, hcz31_2, hcz31_3, hfz31_0, hfz31_1, hfz31_2, hfz31_3⟩ := c4_ BK255) | ((with_reducible refine gate_callee (f := 35) rfl ?_); refine gl_ (some 10) rfl rfl Try.func35 (by kernel_rfl) rfl #[.agg #[.int .i64 a0_0, .int .i64 a0_1, .bool a0_2], .agg #[.int .i64 a1_0, .int .i64 a1_1, .int .u8 a1_2, .slice A1_3 l1_3.length c1_3]] rfl ?_; (with_reducible refine (plan_next.calls k a0_0 a0_1 a0_2 a1_0 a1_1 a1_2 _ _ l1_3 t256 t257 t258 t259 _ ?side1 ?side2 A3.out).mono ?_); (case side1 => exact cb_ HR1_3 HB); (case side2 => exact HC1_3.out); rintro e w32 ⟨rfl, hb⟩; refine ⟨_, rfl, ?_⟩; replace BK254 := bb_ BK254 hb; replace BK255 := bb_ BK255 hb; replace HB := bs_ HB hb; (try clear hb)) | ((with_reducible refine gate_dst (N := 5) rfl ?_); refine box_e 5 #[.int .i64 0, .int .i64 0, .int .i64 0] 29 ?_; intro gb260 hg w33 hbox hb; have BK260 := Aside0.mk hbox; have GW260 := bg_ HB hg; have GE260 := bg_ HB hg; have NB254_260 := bn_ BK254 hg; have NB260_254 := bm_ BK254 hg; have NB255_260 := bn_ BK255 hg; have NB260_255 := bm_ BK255 hg; replace BK254 := bb_ BK254 hb; replace BK255 := bb_ BK255 hb; replace HB := bs_ HB hb; clear hb hbox hg; have hnb34 := NB260_254.out; have hnc34 := NB254_260.out; have hnb35 := NB260_255.out; have hnc35 := NB255_260.out; obtain ⟨hcz36_0, hcz36_1, hcz36_2, hfz36_0, hfz36_1, hfz36_2⟩ := c3_ BK260))
    go_ret
    exact ⟨by first | rfl | (simp [errW_none, errW_some] <;> rfl) | (simp [*, errW_none, errW_some] <;> rfl), bh_ HB⟩
   ·rw [if_neg c26] at H
    have c26b0 : (t256 == 3) = false := beq_eq_false_iff_ne.mpr c26
    have c26b1 : (t256 != 3) = true := bne_iff_ne.mpr c26
    by_cases c37 : t256 = 4
    ·rw [if_pos c37] at H
     have c37b0 : (t256 == 4) = true := beq_iff_eq.mpr c37
     have c37b1 : (t256 != 4) = false := bne_eq_false_iff_eq.mpr c37
     clear c37
     obtain rfl := Option.some.inj H
     go_enter Try.func38, Try.ntmps38
     go_wp2_with (first | ((with_reducible refine gate_dst (N := 2) rfl ?_); refine box_e 2 #[.int .i64 a0_0, .int .i64 a0_1, .bool a0_2] 23 ?_; intro gb254 hg w38 hbox hb; have BK254 := Aside0.mk hbox; have GW254 := bg_ HB hg; have GE254 := bg_ HB hg; replace HB := bs_ HB hb; clear hb hbox hg) | ((with_reducible refine gate_dst (N := 3) rfl ?_); refine box_e 3 #[.int .i64 a1_0, .int .i64 a1_1, .int .u8 a1_2, .slice A1_3 l1_3.length c1_3] 26 ?_; intro gb255 hg w39 hbox hb; have BK255 := Aside0.mk hbox; have GW255 := bg_ HB hg; have GE255 := bg_ HB hg; have NB254_255 := bn_ BK254 hg; have NB255_254 := bm_ BK254 hg; replace BK254 := bb_ BK254 hb; replace HB := bs_ HB hb; clear hb hbox hg; have hnb40 := NB254_255.out; have hnc40 := NB255_254.out; obtain ⟨hcz41_0, hcz41_1, hcz41_2, hfz41_0, hfz41_1, hfz41_2⟩ := c3_ BK254; obtain ⟨hcz42_0, hcz42_1, hcz42_2, hcz42_3, hfz42_0, hfz42_1, hfz42_2, hfz42_3⟩ := c4_ BK255) | ((with_reducible refine gate_callee (f := 35) rfl ?_); refine gl_ (some 10) rfl rfl Try.func35 (by kernel_rfl) rfl #[.agg #[.int .i64 a0_0, .int .i64 a0_1, .bool a0_2], .agg #[.int .i64 a1_0, .int .i64 a1_1, .int .u8 a1_2, .slice A1_3 l1_3.length c1_3]] rfl ?_; (with_reducible refine (plan_next.calls k a0_0 a0_1 a0_2 a1_0 a1_1 a1_2 _ _ l1_3 t256 t257 t258 t259 _ ?side1 ?side2 A3.out).mono ?_); (case side1 => exact cb_ HR1_3 HB); (case side2 => exact HC1_3.out); rintro e w43 ⟨rfl, hb⟩; refine ⟨_, rfl, ?_⟩; replace BK254 := bb_ BK254 hb; replace BK255 := bb_ BK255 hb; replace HB := bs_ HB hb; (try clear hb)) | ((with_reducible refine gate_dst (N := 5) rfl ?_); refine box_e 5 #[.int .i64 0, .int .i64 0, .int .i64 0] 29 ?_; intro gb260 hg w44 hbox hb; have BK260 := Aside0.mk hbox; have GW260 := bg_ HB hg; have GE260 := bg_ HB hg; have NB254_260 := bn_ BK254 hg; have NB260_254 := bm_ BK254 hg; have NB255_260 := bn_ BK255 hg; have NB260_255 := bm_ BK255 hg; replace BK254 := bb_ BK254 hb; replace BK255 := bb_ BK255 hb; replace HB := bs_ HB hb; clear hb hbox hg; have hnb45 := NB260_254.out; have hnc45 := NB254_260.out; have hnb46 := NB260_255.out; have hnc46 := NB255_260.out; obtain ⟨hcz47_0, hcz47_1, hcz47_2, hfz47_0, hfz47_1, hfz47_2⟩ := c3_ BK260))
     go_ret
     exact ⟨by first | rfl | (simp [errW_none, errW_some] <;> rfl) | (simp [*, errW_none, errW_some] <;> rfl), bh_ HB⟩
    ·rw [if_neg c37] at H
     have c37b0 : (t256 == 4) = false := beq_eq_false_iff_ne.mpr c37
     have c37b1 : (t256 != 4) = true := bne_iff_ne.mpr c37
     obtain rfl := Option.some.inj H
     go_enter Try.func38, Try.ntmps38
     go_wp2_with (first | ((with_reducible refine gate_dst (N := 2) rfl ?_); refine box_e 2 #[.int .i64 a0_0, .int .i64 a0_1, .bool a0_2] 23 ?_; intro gb254 hg w48 hbox hb; have BK254 := Aside0.mk hbox; have GW254 := bg_ HB hg; have GE254 := bg_ HB hg; replace HB := bs_ HB hb; clear hb hbox hg) | ((with_reducible refine gate_dst (N := 3) rfl ?_); refine box_e 3 #[.int .i64 a1_0, .int .i64 a1_1, .int .u8 a1_2, .slice A1_3 l1_3.length c1_3] 26 ?_; intro gb255 hg w49 hbox hb; have BK255 := Aside0.mk hbox; have GW255 := bg_ HB hg; have GE255 := bg_ HB hg; have NB254_255 := bn_ BK254 hg; have NB255_254 := bm_ BK254 hg; replace BK254 := bb_ BK254 hb; replace HB := bs_ HB hb; clear hb hbox hg; have hnb50 := NB254_255.out; have hnc50 := NB255_254.out; obtain ⟨hcz51_0, hcz51_1, hcz51_2, hfz51_0, hfz51_1, hfz51_2⟩ := c3_ BK254; obtain ⟨hcz52_0, hcz52_1, hcz52_2, hcz52_3, hfz52_0, hfz52_1, hfz52_2, hfz52_3⟩ := c4_ BK255) | ((with_reducible refine gate_callee (f := 35) rfl ?_); refine gl_ (some 10) rfl rfl Try.func35 (by kernel_rfl) rfl #[.agg #[.int .i64 a0_0, .int .i64 a0_1, .bool a0_2], .agg #[.int .i64 a1_0, .int .i64 a1_1, .int .u8 a1_2, .slice A1_3 l1_3.length c1_3]] rfl ?_; (with_reducible refine (plan_next.calls k a0_0 a0_1 a0_2 a1_0 a1_1 a1_2 _ _ l1_3 t256 t257 t258 t259 _ ?side1 ?side2 A3.out).mono ?_); (case side1 => exact cb_ HR1_3 HB); (case side2 => exact HC1_3.out); rintro e w53 ⟨rfl, hb⟩; refine ⟨_, rfl, ?_⟩; replace BK254 := bb_ BK254 hb; replace BK255 := bb_ BK255 hb; replace HB := bs_ HB hb; (try clear hb)) | ((with_reducible refine gate_dst (N := 5) rfl ?_); refine box_e 5 #[.int .i64 0, .int .i64 0, .int .i64 0] 29 ?_; intro gb260 hg w54 hbox hb; have BK260 := Aside0.mk hbox; have GW260 := bg_ HB hg; have GE260 := bg_ HB hg; have NB254_260 := bn_ BK254 hg; have NB260_254 := bm_ BK254 hg; have NB255_260 := bn_ BK255 hg; have NB260_255 := bm_ BK255 hg; replace BK254 := bb_ BK254 hb; replace BK255 := bb_ BK255 hb; replace HB := bs_ HB hb; clear hb hbox hg; have hnb55 := NB260_254.out; have hnc55 := NB254_260.out; have hnb56 := NB260_255.out; have hnc56 := NB255_260.out; obtain ⟨hcz57_0, hcz57_1, hcz57_2, hfz57_0, hfz57_1, hfz57_2⟩ := c3_ BK260))
     go_ret
     exact ⟨by first | rfl | (simp [errW_none, errW_some] <;> rfl) | (simp [*, errW_none, errW_some] <;> rfl), bh_ HB⟩

end Go.Proofs.Ytnoilinjlelpaaa.P
