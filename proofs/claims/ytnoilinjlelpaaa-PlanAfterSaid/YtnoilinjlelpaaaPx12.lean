/- Laid by a program of this session's own (wip/wprint.py, over the kit's print.py): functions of the given program as plain Lean functions, and that the program's calls come to their answers. -/
import Derived.Test.YtnoilinjlelpaaaPx0
import Derived.Test.YtnoilinjlelpaaaPx3
import Derived.Test.YtnoilinjlelpaaaPx6
import Derived.Test.YtnoilinjlelpaaaPx11
namespace Go.Proofs.Ytnoilinjlelpaaa.P
open Go.RowKit Go.Proofs.YtnoilinjlelpaaaW.PrintWords Go.Proofs.YtnoilinjlelpaaaW.PrintLast Go.Proofs.YtnoilinjlelpaaaW.PrintMore
attribute [local go_sem] max2_int min2_int max_two min_two max_three min_three max_four min_four   -- for this text's walks alone
set_option linter.unusedVariables false
set_option linter.unusedSimpArgs false

/-! ### plan_Next: function 12 -/
def plan_Next.f (k : Nat) (a0_0 : Int) (a0_1 : Int) (a0_2 : Bool) (a1_0 : Int) (a1_1 : Int) (a1_2 : Int) (l1_3 : List (S33)) : Option (Int × Int × Int) := (plan_May.f a0_0 a0_1 a0_2).bind fun t179 => (if t179 = true then ((maptext_May.f k a1_0 a1_1 a1_2 l1_3).bind fun t180 => (if t180 = true then ((plan_next.f k a0_0 a0_1 a0_2 a1_0 a1_1 a1_2 l1_3).bind fun bt181 => (some (bt181.1, bt181.2.1, bt181.2.2.1))) else (some (0, 0, 0)))) else (some (0, 0, 0)))
theorem plan_Next.mono : ∀ a0 a1 a2 a3 a4 a5 a6 k, LeO (plan_Next.f k a0 a1 a2 a3 a4 a5 a6) (plan_Next.f (k + 1) a0 a1 a2 a3 a4 a5 a6) := by
 intro a0 a1 a2 a3 a4 a5 a6 k
 unfold plan_Next.f
 repeat' first
   | (with_reducible exact maptext_May.mono _ _ _ _ _)
   | (with_reducible exact plan_next.mono _ _ _ _ _ _ _ _)
   | (with_reducible exact LeO.refl _)
   | (with_reducible exact LeO.none _)
   | (with_reducible refine LeO.ite ?_ ?_)
   | (with_reducible refine LeO.bind ?_ (fun _ => ?_))
   | exact maptext_May.mono _ _ _ _ _
   | exact plan_next.mono _ _ _ _ _ _ _ _
   | exact LeO.none _
   | refine LeO.ite ?_ ?_
   | refine LeO.bind ?_ (fun _ => ?_)
set_option maxHeartbeats 8000000 in
set_option maxRecDepth 100000 in
theorem plan_Next.calls (k : Nat) (a0_0 : Int) (a0_1 : Int) (a0_2 : Bool) (a1_0 : Int) (a1_1 : Int) (a1_2 : Int) (A1_3 : Option Addr) (c1_3 : Nat) (l1_3 : List (S33)) (r1 : Int) (r2 : Int) (r3 : Int) (w : World) (hr1_3 : Kd.C k33 w A1_3 l1_3.length l1_3) (hc1_3 : l1_3.length ≤ c1_3) (h : plan_Next.f k a0_0 a0_1 a0_2 a1_0 a1_1 a1_2 l1_3 = some (r1, r2, r3)) :
  Calls Try.prog 12 #[.agg #[.int .i64 a0_0, .int .i64 a0_1, .bool a0_2], .agg #[.int .i64 a1_0, .int .i64 a1_1, .int .u8 a1_2, .slice A1_3 l1_3.length c1_3]] w fun e w' => e = .returned (.agg #[.int .i64 r1, .int .i64 r2, .int .i64 r3]) ∧ Below w.heap.size w w' := by
 have hu23 := Try.underlying23
 have hu26 := Try.underlying26
 have hu29 := Try.underlying29
 have HR1_3 := Aside0.mk hr1_3
 have HC1_3 := Aside0.mk hc1_3
 clear hr1_3 hc1_3
 have HB := Aside0.mk (Below.refl w.heap.size w)
 have H : ((plan_May.f a0_0 a0_1 a0_2).bind fun t179 => (if t179 = true then ((maptext_May.f k a1_0 a1_1 a1_2 l1_3).bind fun t180 => (if t180 = true then ((plan_next.f k a0_0 a0_1 a0_2 a1_0 a1_1 a1_2 l1_3).bind fun bt181 => (some (bt181.1, bt181.2.1, bt181.2.2.1))) else (some (0, 0, 0)))) else (some (0, 0, 0)))) = some (r1, r2, r3) := h
 clear h
 replace H := Option.bind_eq_some_iff.mp H
 obtain ⟨t179, A30, H⟩ := H
 replace H : (if t179 = true then ((maptext_May.f k a1_0 a1_1 a1_2 l1_3).bind fun t180 => (if t180 = true then ((plan_next.f k a0_0 a0_1 a0_2 a1_0 a1_1 a1_2 l1_3).bind fun bt181 => (some (bt181.1, bt181.2.1, bt181.2.2.1))) else (some (0, 0, 0)))) else (some (0, 0, 0))) = some (r1, r2, r3) := H
 have A3 := Aside0.mk A30
 clear A30
 by_cases c4 : t179 = true
 ·subst c4
  have H1 : ((maptext_May.f k a1_0 a1_1 a1_2 l1_3).bind fun t180 => (if t180 = true then ((plan_next.f k a0_0 a0_1 a0_2 a1_0 a1_1 a1_2 l1_3).bind fun bt181 => (some (bt181.1, bt181.2.1, bt181.2.2.1))) else (some (0, 0, 0)))) = some (r1, r2, r3) := by rw [if_pos rfl] at H; exact H
  clear H
  have H := H1
  clear H1
  replace H := Option.bind_eq_some_iff.mp H
  obtain ⟨t180, A50, H⟩ := H
  replace H : (if t180 = true then ((plan_next.f k a0_0 a0_1 a0_2 a1_0 a1_1 a1_2 l1_3).bind fun bt181 => (some (bt181.1, bt181.2.1, bt181.2.2.1))) else (some (0, 0, 0))) = some (r1, r2, r3) := H
  have A5 := Aside0.mk A50
  clear A50
  by_cases c6 : t180 = true
  ·subst c6
   have H1 : ((plan_next.f k a0_0 a0_1 a0_2 a1_0 a1_1 a1_2 l1_3).bind fun bt181 => (some (bt181.1, bt181.2.1, bt181.2.2.1))) = some (r1, r2, r3) := by rw [if_pos rfl] at H; exact H
   clear H
   have H := H1
   clear H1
   replace H := Option.bind_eq_some_iff.mp H
   obtain ⟨⟨t181, t182, t183, t184⟩, A70, H⟩ := H
   replace H : (some (t181, t182, t183)) = some (r1, r2, r3) := H
   have A7 := Aside0.mk A70
   clear A70
   simp only [Option.some.injEq, Prod.mk.injEq] at H
   obtain ⟨rfl, rfl, rfl⟩ := H
   go_enter Try.func12, Try.ntmps12
   go_wp2_with (first | ((with_reducible refine gate_dst (N := 2) rfl ?_); refine box_e 2 #[.int .i64 a0_0, .int .i64 a0_1, .bool a0_2] 23 ?_; intro gb176 hg w8 hbox hb; have BK176 := Aside0.mk hbox; have GW176 := bg_ HB hg; have GE176 := bg_ HB hg; replace HB := bs_ HB hb; clear hb hbox hg) | ((with_reducible refine gate_dst (N := 3) rfl ?_); refine box_e 3 #[.int .i64 a1_0, .int .i64 a1_1, .int .u8 a1_2, .slice A1_3 l1_3.length c1_3] 26 ?_; intro gb177 hg w9 hbox hb; have BK177 := Aside0.mk hbox; have GW177 := bg_ HB hg; have GE177 := bg_ HB hg; have NB176_177 := bn_ BK176 hg; have NB177_176 := bm_ BK176 hg; replace BK176 := bb_ BK176 hb; replace HB := bs_ HB hb; clear hb hbox hg) | ((with_reducible refine gate_dst (N := 4) rfl ?_); refine box_e 4 #[.int .i64 0, .int .i64 0, .int .i64 0] 29 ?_; intro gb178 hg w10 hbox hb; have BK178 := Aside0.mk hbox; have GW178 := bg_ HB hg; have GE178 := bg_ HB hg; have NB176_178 := bn_ BK176 hg; have NB178_176 := bm_ BK176 hg; have NB177_178 := bn_ BK177 hg; have NB178_177 := bm_ BK177 hg; replace BK176 := bb_ BK176 hb; replace BK177 := bb_ BK177 hb; replace HB := bs_ HB hb; clear hb hbox hg; have hnb11 := NB176_177.out; have hnc11 := NB177_176.out; have hnb12 := NB176_178.out; have hnc12 := NB178_176.out; obtain ⟨hcz13_0, hcz13_1, hcz13_2, hfz13_0, hfz13_1, hfz13_2⟩ := c3_ BK176) | ((with_reducible refine gate_callee (f := 14) rfl ?_); refine gl_ (some 8) rfl rfl Try.func14 (by kernel_rfl) rfl #[.agg #[.int .i64 a0_0, .int .i64 a0_1, .bool a0_2]] rfl ?_; (with_reducible refine (plan_May.calls a0_0 a0_1 a0_2 true _ A3.out).mono ?_); rintro e w14 ⟨rfl, hb⟩; refine ⟨_, rfl, ?_⟩; replace BK176 := bb_ BK176 hb; replace BK177 := bb_ BK177 hb; replace BK178 := bb_ BK178 hb; replace HB := bs_ HB hb; (try clear hb); have hnb15 := NB177_178.out; have hnc15 := NB178_177.out; obtain ⟨hcz16_0, hcz16_1, hcz16_2, hcz16_3, hfz16_0, hfz16_1, hfz16_2, hfz16_3⟩ := c4_ BK177) | (go_at_call 18; (with_reducible refine (maptext_May.calls k a1_0 a1_1 a1_2 _ _ l1_3 true _ ?side1 ?side2 A5.out).mono ?_); (case side1 => exact cb_ HR1_3 HB); (case side2 => exact HC1_3.out); rintro e w17 ⟨rfl, hb⟩; replace BK176 := bb_ BK176 hb; replace BK177 := bb_ BK177 hb; replace BK178 := bb_ BK178 hb; replace HB := bs_ HB hb; (try clear hb); obtain ⟨hcz18_0, hcz18_1, hcz18_2, hfz18_0, hfz18_1, hfz18_2⟩ := c3_ BK176; obtain ⟨hcz19_0, hcz19_1, hcz19_2, hcz19_3, hfz19_0, hfz19_1, hfz19_2, hfz19_3⟩ := c4_ BK177) | ((with_reducible refine gate_callee (f := 35) rfl ?_); refine gl_ (some 19) rfl rfl Try.func35 (by kernel_rfl) rfl #[.agg #[.int .i64 a0_0, .int .i64 a0_1, .bool a0_2], .agg #[.int .i64 a1_0, .int .i64 a1_1, .int .u8 a1_2, .slice A1_3 l1_3.length c1_3]] rfl ?_; (with_reducible refine (plan_next.calls k a0_0 a0_1 a0_2 a1_0 a1_1 a1_2 _ _ l1_3 t181 t182 t183 t184 _ ?side1 ?side2 A7.out).mono ?_); (case side1 => exact cb_ HR1_3 HB); (case side2 => exact HC1_3.out); rintro e w20 ⟨rfl, hb⟩; refine ⟨_, rfl, ?_⟩; replace BK176 := bb_ BK176 hb; replace BK177 := bb_ BK177 hb; replace BK178 := bb_ BK178 hb; replace HB := bs_ HB hb; (try clear hb)) | ((with_reducible refine gate_dst (N := 5) rfl ?_); refine box_e 5 #[.int .i64 0, .int .i64 0, .int .i64 0] 29 ?_; intro gb185 hg w21 hbox hb; have BK185 := Aside0.mk hbox; have GW185 := bg_ HB hg; have GE185 := bg_ HB hg; have NB176_185 := bn_ BK176 hg; have NB185_176 := bm_ BK176 hg; have NB177_185 := bn_ BK177 hg; have NB185_177 := bm_ BK177 hg; have NB178_185 := bn_ BK178 hg; have NB185_178 := bm_ BK178 hg; replace BK176 := bb_ BK176 hb; replace BK177 := bb_ BK177 hb; replace BK178 := bb_ BK178 hb; replace HB := bs_ HB hb; clear hb hbox hg; have hnb22 := NB185_176.out; have hnc22 := NB176_185.out; have hnb23 := NB185_177.out; have hnc23 := NB177_185.out; have hnb24 := NB185_178.out; have hnc24 := NB178_185.out; obtain ⟨hcz25_0, hcz25_1, hcz25_2, hfz25_0, hfz25_1, hfz25_2⟩ := c3_ BK185; obtain ⟨hcz26_0, hcz26_1, hcz26_2, hfz26_0, hfz26_1, hfz26_2⟩ := c3_ BK178))
   refine bodyPost_ret (results_cell_row rfl _ _ gb178 29 #[.int .i64 t181, .int .i64 t182, .int .i64 t183] (0, 0) _ rfl (bp_ BK178) Try.underlying29 rfl (by kernel_rfl)) rfl ?_
   exact ⟨by first | rfl | (simp [errW_none, errW_some] <;> rfl) | (simp [*, errW_none, errW_some] <;> rfl), bh_ HB⟩
  ·replace c6 := Bool.eq_false_iff.mpr c6
   subst c6
   have H1 : (some (0, 0, 0)) = some (r1, r2, r3) := by rw [if_neg (show ¬ (false = true) by decide)] at H; exact H
   clear H
   have H := H1
   clear H1
   simp only [Option.some.injEq, Prod.mk.injEq] at H
   obtain ⟨rfl, rfl, rfl⟩ := H
   go_enter Try.func12, Try.ntmps12
   go_wp2_with (first | ((with_reducible refine gate_dst (N := 2) rfl ?_); refine box_e 2 #[.int .i64 a0_0, .int .i64 a0_1, .bool a0_2] 23 ?_; intro gb176 hg w27 hbox hb; have BK176 := Aside0.mk hbox; have GW176 := bg_ HB hg; have GE176 := bg_ HB hg; replace HB := bs_ HB hb; clear hb hbox hg) | ((with_reducible refine gate_dst (N := 3) rfl ?_); refine box_e 3 #[.int .i64 a1_0, .int .i64 a1_1, .int .u8 a1_2, .slice A1_3 l1_3.length c1_3] 26 ?_; intro gb177 hg w28 hbox hb; have BK177 := Aside0.mk hbox; have GW177 := bg_ HB hg; have GE177 := bg_ HB hg; have NB176_177 := bn_ BK176 hg; have NB177_176 := bm_ BK176 hg; replace BK176 := bb_ BK176 hb; replace HB := bs_ HB hb; clear hb hbox hg) | ((with_reducible refine gate_dst (N := 4) rfl ?_); refine box_e 4 #[.int .i64 0, .int .i64 0, .int .i64 0] 29 ?_; intro gb178 hg w29 hbox hb; have BK178 := Aside0.mk hbox; have GW178 := bg_ HB hg; have GE178 := bg_ HB hg; have NB176_178 := bn_ BK176 hg; have NB178_176 := bm_ BK176 hg; have NB177_178 := bn_ BK177 hg; have NB178_177 := bm_ BK177 hg; replace BK176 := bb_ BK176 hb; replace BK177 := bb_ BK177 hb; replace HB := bs_ HB hb; clear hb hbox hg; have hnb30 := NB176_177.out; have hnc30 := NB177_176.out; have hnb31 := NB176_178.out; have hnc31 := NB178_176.out; obtain ⟨hcz32_0, hcz32_1, hcz32_2, hfz32_0, hfz32_1, hfz32_2⟩ := c3_ BK176) | ((with_reducible refine gate_callee (f := 14) rfl ?_); refine gl_ (some 8) rfl rfl Try.func14 (by kernel_rfl) rfl #[.agg #[.int .i64 a0_0, .int .i64 a0_1, .bool a0_2]] rfl ?_; (with_reducible refine (plan_May.calls a0_0 a0_1 a0_2 true _ A3.out).mono ?_); rintro e w33 ⟨rfl, hb⟩; refine ⟨_, rfl, ?_⟩; replace BK176 := bb_ BK176 hb; replace BK177 := bb_ BK177 hb; replace BK178 := bb_ BK178 hb; replace HB := bs_ HB hb; (try clear hb); have hnb34 := NB177_178.out; have hnc34 := NB178_177.out; obtain ⟨hcz35_0, hcz35_1, hcz35_2, hcz35_3, hfz35_0, hfz35_1, hfz35_2, hfz35_3⟩ := c4_ BK177) | (go_at_call 18; (with_reducible refine (maptext_May.calls k a1_0 a1_1 a1_2 _ _ l1_3 false _ ?side1 ?side2 A5.out).mono ?_); (case side1 => exact cb_ HR1_3 HB); (case side2 => exact HC1_3.out); rintro e w36 ⟨rfl, hb⟩; replace BK176 := bb_ BK176 hb; replace BK177 := bb_ BK177 hb; replace BK178 := bb_ BK178 hb; replace HB := bs_ HB hb; (try clear hb); obtain ⟨hcz37_0, hcz37_1, hcz37_2, hfz37_0, hfz37_1, hfz37_2⟩ := c3_ BK178))
   refine bodyPost_ret (results_cell_row rfl _ _ gb178 29 #[.int .i64 0, .int .i64 0, .int .i64 0] (0, 0) _ rfl (bp_ BK178) Try.underlying29 rfl (by kernel_rfl)) rfl ?_
   exact ⟨by first | rfl | (simp [errW_none, errW_some] <;> rfl) | (simp [*, errW_none, errW_some] <;> rfl), bh_ HB⟩
 ·replace c4 := Bool.eq_false_iff.mpr c4
  subst c4
  have H1 : (some (0, 0, 0)) = some (r1, r2, r3) := by rw [if_neg (show ¬ (false = true) by decide)] at H; exact H
  clear H
  have H := H1
  clear H1
  simp only [Option.some.injEq, Prod.mk.injEq] at H
  obtain ⟨rfl, rfl, rfl⟩ := H
  go_enter Try.func12, Try.ntmps12
  go_wp2_with (first | ((with_reducible refine gate_dst (N := 2) rfl ?_); refine box_e 2 #[.int .i64 a0_0, .int .i64 a0_1, .bool a0_2] 23 ?_; intro gb176 hg w38 hbox hb; have BK176 := Aside0.mk hbox; have GW176 := bg_ HB hg; have GE176 := bg_ HB hg; replace HB := bs_ HB hb; clear hb hbox hg) | ((with_reducible refine gate_dst (N := 3) rfl ?_); refine box_e 3 #[.int .i64 a1_0, .int .i64 a1_1, .int .u8 a1_2, .slice A1_3 l1_3.length c1_3] 26 ?_; intro gb177 hg w39 hbox hb; have BK177 := Aside0.mk hbox; have GW177 := bg_ HB hg; have GE177 := bg_ HB hg; have NB176_177 := bn_ BK176 hg; have NB177_176 := bm_ BK176 hg; replace BK176 := bb_ BK176 hb; replace HB := bs_ HB hb; clear hb hbox hg) | ((with_reducible refine gate_dst (N := 4) rfl ?_); refine box_e 4 #[.int .i64 0, .int .i64 0, .int .i64 0] 29 ?_; intro gb178 hg w40 hbox hb; have BK178 := Aside0.mk hbox; have GW178 := bg_ HB hg; have GE178 := bg_ HB hg; have NB176_178 := bn_ BK176 hg; have NB178_176 := bm_ BK176 hg; have NB177_178 := bn_ BK177 hg; have NB178_177 := bm_ BK177 hg; replace BK176 := bb_ BK176 hb; replace BK177 := bb_ BK177 hb; replace HB := bs_ HB hb; clear hb hbox hg; have hnb41 := NB176_177.out; have hnc41 := NB177_176.out; have hnb42 := NB176_178.out; have hnc42 := NB178_176.out; obtain ⟨hcz43_0, hcz43_1, hcz43_2, hfz43_0, hfz43_1, hfz43_2⟩ := c3_ BK176) | ((with_reducible refine gate_callee (f := 14) rfl ?_); refine gl_ (some 8) rfl rfl Try.func14 (by kernel_rfl) rfl #[.agg #[.int .i64 a0_0, .int .i64 a0_1, .bool a0_2]] rfl ?_; (with_reducible refine (plan_May.calls a0_0 a0_1 a0_2 false _ A3.out).mono ?_); rintro e w44 ⟨rfl, hb⟩; refine ⟨_, rfl, ?_⟩; replace BK176 := bb_ BK176 hb; replace BK177 := bb_ BK177 hb; replace BK178 := bb_ BK178 hb; replace HB := bs_ HB hb; (try clear hb); have hnb45 := NB178_177.out; have hnc45 := NB177_178.out; obtain ⟨hcz46_0, hcz46_1, hcz46_2, hfz46_0, hfz46_1, hfz46_2⟩ := c3_ BK178))
  refine bodyPost_ret (results_cell_row rfl _ _ gb178 29 #[.int .i64 0, .int .i64 0, .int .i64 0] (0, 0) _ rfl (bp_ BK178) Try.underlying29 rfl (by kernel_rfl)) rfl ?_
  exact ⟨by first | rfl | (simp [errW_none, errW_some] <;> rfl) | (simp [*, errW_none, errW_some] <;> rfl), bh_ HB⟩

end Go.Proofs.Ytnoilinjlelpaaa.P
