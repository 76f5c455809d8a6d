/- Laid by a program of this session's own (wip/wprint.py, over the kit's print.py): functions of the given program as plain Lean functions, and that the program's calls come to their answers. -/
import Derived.Test.YtlcablcpcbmgeaaGreatDoorPx0
import Derived.Test.YtlcablcpcbmgeaaGreatDoorPx21
import Derived.Test.YtlcablcpcbmgeaaGreatDoorPx22
import Derived.Test.YtlcablcpcbmgeaaGreatDoorPx23
import Derived.Test.YtlcablcpcbmgeaaGreatDoorPx35
namespace Go.Proofs.YtlcablcpcbmgeaaGreatDoor.P
open Go.RowKit Go.Proofs.YtlcablcpcbmgeaaGreatDoorW.PrintWords Go.Proofs.YtlcablcpcbmgeaaGreatDoorW.PrintLast Go.Proofs.YtlcablcpcbmgeaaGreatDoorW.PrintMore
attribute [local go_sem] max2_int min2_int max_two min_two max_three min_three max_four min_four   -- for this text's walks alone
set_option linter.unusedVariables false
set_option linter.unusedSimpArgs false

/-! ### salvorlaw17_MapParses: function 5 -/
def salvorlaw17_MapParses.f (k : Nat) (a0 : ByteArray) : Option (Bool) := if (a0.size : Int) > 1500 then ((salvorlaw17_MapRuns.f k).bind fun t289 => (some t289)) else ((maptext_Parse.f k a0).bind fun bt290 => ((salvorref16_Parse.f k a0).bind fun bt298 => ((salvorref16_SameMap.f k bt290.1 bt290.2.1 bt290.2.2.1 bt290.2.2.2.1 bt298.1 bt298.2.1 bt298.2.2.1 bt298.2.2.2.1).bind fun t306 => (if t306 = true then (if bt290.2.2.2.2 = bt298.2.2.2.2 then ((salvorlaw17_MapRuns.f k).bind fun t307 => (some t307)) else (some false)) else (some false)))))
theorem salvorlaw17_MapParses.mono : ∀ a0 k, LeO (salvorlaw17_MapParses.f k a0) (salvorlaw17_MapParses.f (k + 1) a0) := by
 intro a0 k
 unfold salvorlaw17_MapParses.f
 repeat' first
   | (with_reducible exact maptext_Parse.mono _ _)
   | (with_reducible exact salvorlaw17_MapRuns.mono _)
   | (with_reducible exact salvorref16_Parse.mono _ _)
   | (with_reducible exact salvorref16_SameMap.mono _ _ _ _ _ _ _ _ _)
   | (with_reducible exact LeO.refl _)
   | (with_reducible exact LeO.none _)
   | (with_reducible refine LeO.ite ?_ ?_)
   | (with_reducible refine LeO.bind ?_ (fun _ => ?_))
   | exact maptext_Parse.mono _ _
   | exact salvorlaw17_MapRuns.mono _
   | exact salvorref16_Parse.mono _ _
   | exact salvorref16_SameMap.mono _ _ _ _ _ _ _ _ _
   | exact LeO.none _
   | refine LeO.ite ?_ ?_
   | refine LeO.bind ?_ (fun _ => ?_)
set_option maxHeartbeats 8000000 in
set_option maxRecDepth 100000 in
theorem salvorlaw17_MapParses.calls (k : Nat) (a0 : ByteArray) (r : Bool) (w : World) (h : salvorlaw17_MapParses.f k a0 = some r) (htab : TabAt w) (hrt : r = true) :
  Calls Tryz.prog 5 #[.string a0] w fun e w' => e = .returned (.bool r) ∧ Below w.heap.size w w' := by
 have HT := Aside0.mk hrt
 clear hrt
 have HTAB := Aside0.mk htab
 clear htab
 have hu26 := Tryz.underlying26
 have HB := Aside0.mk (Below.refl w.heap.size w)
 have H : (if (a0.size : Int) > 1500 then ((salvorlaw17_MapRuns.f k).bind fun t289 => (some t289)) else ((maptext_Parse.f k a0).bind fun bt290 => ((salvorref16_Parse.f k a0).bind fun bt298 => ((salvorref16_SameMap.f k bt290.1 bt290.2.1 bt290.2.2.1 bt290.2.2.2.1 bt298.1 bt298.2.1 bt298.2.2.1 bt298.2.2.2.1).bind fun t306 => (if t306 = true then (if bt290.2.2.2.2 = bt298.2.2.2.2 then ((salvorlaw17_MapRuns.f k).bind fun t307 => (some t307)) else (some false)) else (some false)))))) = some r := h
 clear h
 by_cases c2 : (a0.size : Int) > 1500
 ·rw [if_pos c2] at H
  have c2b0 : decide (1500 < (a0.size : Int)) = true := decide_eq_true c2
  have c2b1 : decide (1500 < a0.size) = true := decide_eq_true (by omega)
  clear c2
  replace H := Option.bind_eq_some_iff.mp H
  obtain ⟨t289, A30, H⟩ := H
  replace H : (some t289) = some r := H
  have A3 := Aside0.mk A30
  clear A30
  obtain rfl := Option.some.inj H
  go_enter Tryz.func5, Tryz.ntmps5
  go_wp2_with (first | ((with_reducible refine gate_callee (f := 3) rfl ?_); refine gl_ (some 10) rfl rfl Tryz.func3 (by kernel_rfl) rfl #[] rfl ?_; (with_reducible refine (salvorlaw17_MapRuns.calls k  t289 _ A3.out ?tb0_).mono ?_); (case tb0_ => exact tb_ HTAB HB); rintro e w4 ⟨rfl, hb⟩; refine ⟨_, rfl, ?_⟩; replace HB := bs_ HB hb; (try clear hb)))
  go_ret
  exact ⟨by first | rfl | (simp [errW_none, errW_some] <;> rfl) | (simp [*, errW_none, errW_some] <;> rfl), bh_ HB⟩
 ·rw [if_neg c2] at H
  have c2b0 : decide (1500 < (a0.size : Int)) = false := decide_eq_false c2
  have c2b1 : decide (1500 < a0.size) = false := decide_eq_false (by omega)
  clear c2
  replace H := Option.bind_eq_some_iff.mp H
  obtain ⟨⟨t290, t291, t292, t293, t296⟩, A50, H⟩ := H
  replace H : ((salvorref16_Parse.f k a0).bind fun bt298 => ((salvorref16_SameMap.f k t290 t291 t292 t293 bt298.1 bt298.2.1 bt298.2.2.1 bt298.2.2.2.1).bind fun t306 => (if t306 = true then (if t296 = bt298.2.2.2.2 then ((salvorlaw17_MapRuns.f k).bind fun t307 => (some t307)) else (some false)) else (some false)))) = some r := H
  have A5 := Aside0.mk A50
  clear A50
  replace H := Option.bind_eq_some_iff.mp H
  obtain ⟨⟨t298, t299, t300, t301, t304⟩, A60, H⟩ := H
  replace H : ((salvorref16_SameMap.f k t290 t291 t292 t293 t298 t299 t300 t301).bind fun t306 => (if t306 = true then (if t296 = t304 then ((salvorlaw17_MapRuns.f k).bind fun t307 => (some t307)) else (some false)) else (some false))) = some r := H
  have A6 := Aside0.mk A60
  clear A60
  replace H := Option.bind_eq_some_iff.mp H
  obtain ⟨t306, A70, H⟩ := H
  replace H : (if t306 = true then (if t296 = t304 then ((salvorlaw17_MapRuns.f k).bind fun t307 => (some t307)) else (some false)) else (some false)) = some r := H
  have A7 := Aside0.mk A70
  clear A70
  by_cases c8 : t306 = true
  ·subst c8
   have H1 : (if t296 = t304 then ((salvorlaw17_MapRuns.f k).bind fun t307 => (some t307)) else (some false)) = some r := by rw [if_pos rfl] at H; exact H
   clear H
   have H := H1
   clear H1
   by_cases c9 : t296 = t304
   ·rw [if_pos c9] at H
    have c9b0 : (t296 == t304) = true := beq_iff_eq.mpr c9
    have c9b1 : (t296 != t304) = false := bne_eq_false_iff_eq.mpr c9
    clear c9
    replace H := Option.bind_eq_some_iff.mp H
    obtain ⟨t307, A100, H⟩ := H
    replace H : (some t307) = some r := H
    have A10 := Aside0.mk A100
    clear A100
    obtain rfl := Option.some.inj H
    go_enter Tryz.func5, Tryz.ntmps5
    go_wp2_with (first | ((with_reducible refine gate_callee (f := 11) rfl ?_); refine gl_ (some 13) rfl rfl Tryz.func11 (by kernel_rfl) rfl #[.string a0] rfl ?_; (with_reducible refine (maptext_Parse.calls k a0 t290 t291 t292 t293 t296 _ A5.out ?tb2_).mono ?_); (case tb2_ => exact tb_ HTAB HB); rintro e w11 ⟨v294, rfl, ho0, hb⟩; refine ⟨_, rfl, ?_⟩; have HO295 := Aside0.mk (Kd.R_lower ho0 (below_size (bh_ HB))); replace HB := bs_ HB hb; (try clear hb); (try clear hb2); (try clear hk); (try clear hi); (try clear ho0)) | ((with_reducible refine gate_dst (N := 3) rfl ?_); refine box_e 3 #[.int .i64 0, .int .i64 0, .int .u8 0, .slice none 0 0] 26 ?_; intro gb297 hg w12 hbox hb; have n0_ := Aside0.mk (Kd.R_below (by (with_reducible repeat (first | apply Kd.R_alloc | apply Kd.R_drewN | apply Kd.R_drew)); exact HO295.out) hb); have n1_ := bs_ HB hb; have n2_ := Aside0.mk hbox; have n3_ := bg_ HB hg; have n4_ := bg_ HB hg; clear HO295; clear HB; have HO295 := n0_; have HB := n1_; have BK297 := n2_; have GW297 := n3_; have GE297 := n4_; clear n0_ n1_ n2_ n3_ n4_; clear hb hbox hg; obtain ⟨hcz13_0, hcz13_1, hcz13_2, hcz13_3, hfz13_0, hfz13_1, hfz13_2, hfz13_3⟩ := c4_ BK297; obtain ⟨Ao14, co14, eo14⟩ := Kd.R_slice HO295.out; subst eo14) | ((with_reducible refine gate_callee (f := 17) rfl ?_); refine gl_ (some 18) rfl rfl Tryz.func17 (by kernel_rfl) rfl #[.string a0] rfl ?_; (with_reducible refine (salvorref16_Parse.calls k a0 t298 t299 t300 t301 t304 _ A6.out).mono ?_); rintro e w15 ⟨v302, rfl, ho0, hb⟩; refine ⟨_, rfl, ?_⟩; have n0_ := Aside0.mk (Kd.R_elder' (by (with_reducible repeat (first | apply Kd.R_alloc | apply Kd.R_drewN | apply Kd.R_drew)); exact (Kd.R_mono (Kd.R_far (p := ⟨gb297, 3, none⟩) (Kd.R_far (p := ⟨gb297, 2, none⟩) (Kd.R_far (p := ⟨gb297, 1, none⟩) (Kd.R_far (p := ⟨gb297, 0, none⟩) (Kd.R_types HO295.out BK297.out (by decide)) (fun _ hk => hk.2) (.int .i64 t290)) (fun _ hk => hk.2) (.int .i64 t291)) (fun _ hk => hk.2) (.int .u8 t292)) (fun _ hk => hk.2) (.slice Ao14 t293.length co14)) (fun _ h_ => h_.1))) (Kd.R_base ho0) hb); have n1_ := Aside0.mk (Kd.R_lower (Kd.R_new' ho0 (Kd.R_lt (by (with_reducible repeat (first | apply Kd.R_alloc | apply Kd.R_drewN | apply Kd.R_drew)); exact (Kd.R_mono (Kd.R_far (p := ⟨gb297, 3, none⟩) (Kd.R_far (p := ⟨gb297, 2, none⟩) (Kd.R_far (p := ⟨gb297, 1, none⟩) (Kd.R_far (p := ⟨gb297, 0, none⟩) (Kd.R_types HO295.out BK297.out (by decide)) (fun _ hk => hk.2) (.int .i64 t290)) (fun _ hk => hk.2) (.int .i64 t291)) (fun _ hk => hk.2) (.int .u8 t292)) (fun _ hk => hk.2) (.slice Ao14 t293.length co14)) (fun _ h_ => h_.1))))) (below_size (bh_ HB))); have n2_ := Aside0.mk (blk_below (g := gb297) (o := .cells #[.int .i64 t290, .int .i64 t291, .int .u8 t292, .slice Ao14 t293.length co14] 26 (0, 0)) (bp_ BK297) hb); have n3_ := bs_ HB hb; clear HO295; clear BK297; clear HB; have HO295 := n0_; have HO303 := n1_; have BK297 := n2_; have HB := n3_; clear n0_ n1_ n2_ n3_; (try clear hb); (try clear hb2); (try clear hk); (try clear hi); (try clear ho0)) | ((with_reducible refine gate_dst (N := 5) rfl ?_); refine box_e 5 #[.int .i64 0, .int .i64 0, .int .u8 0, .slice none 0 0] 26 ?_; intro gb305 hg w16 hbox hb; have n0_ := Aside0.mk (Kd.R_below (by (with_reducible repeat (first | apply Kd.R_alloc | apply Kd.R_drewN | apply Kd.R_drew)); exact HO295.out) hb); have n1_ := Aside0.mk (Kd.R_below (by (with_reducible repeat (first | apply Kd.R_alloc | apply Kd.R_drewN | apply Kd.R_drew)); exact HO303.out) hb); have n2_ := bb_ BK297 hb; have n3_ := bs_ HB hb; have n4_ := Aside0.mk hbox; have n5_ := bg_ HB hg; have n6_ := bg_ HB hg; have n7_ := bn_ BK297 hg; have n8_ := bm_ BK297 hg; clear HO295; clear HO303; clear BK297; clear HB; have HO295 := n0_; have HO303 := n1_; have BK297 := n2_; have HB := n3_; have BK305 := n4_; have GW305 := n5_; have GE305 := n6_; have NB297_305 := n7_; have NB305_297 := n8_; clear n0_ n1_ n2_ n3_ n4_ n5_ n6_ n7_ n8_; clear hb hbox hg; have hnb17 := NB305_297.out; have hnc17 := NB297_305.out; obtain ⟨hcz18_0, hcz18_1, hcz18_2, hcz18_3, hfz18_0, hfz18_1, hfz18_2, hfz18_3⟩ := c4_ BK305; obtain ⟨Ao19, co19, eo19⟩ := Kd.R_slice HO303.out; subst eo19; obtain ⟨hcz20_0, hcz20_1, hcz20_2, hcz20_3, hfz20_0, hfz20_1, hfz20_2, hfz20_3⟩ := c4_ BK297) | ((with_reducible refine gate_callee (f := 12) rfl ?_); refine gl_ (some 23) rfl rfl Tryz.func12 (by kernel_rfl) rfl #[.agg #[.int .i64 t290, .int .i64 t291, .int .u8 t292, .slice Ao14 t293.length co14], .agg #[.int .i64 t298, .int .i64 t299, .int .u8 t300, .slice Ao19 t301.length co19]] rfl ?_; (with_reducible refine (salvorref16_SameMap.calls k t290 t291 t292 _ _ t293 t298 t299 t300 _ _ t301 true _ ?side1 ?side2 ?side3 ?side4 A7.out).mono ?_); (case side1 => refine (Kd.R_reads' (e := 23) (base := w.heap.size) (ok := fun k_ => (True ∧ some k_ ≠ (.slice Ao19 t301.length co19 : Value).ownBlock)) (n := t293.length) (c := co14) ?_).2.2; exact (by (with_reducible repeat (first | apply Kd.R_alloc | apply Kd.R_drewN | apply Kd.R_drew)); exact (Kd.R_mono (Kd.R_far (p := ⟨gb305, 3, none⟩) (Kd.R_far (p := ⟨gb305, 2, none⟩) (Kd.R_far (p := ⟨gb305, 1, none⟩) (Kd.R_far (p := ⟨gb305, 0, none⟩) (Kd.R_types HO295.out BK305.out (by decide)) (fun _ hk => hk.2) (.int .i64 t298)) (fun _ hk => hk.2) (.int .i64 t299)) (fun _ hk => hk.2) (.int .u8 t300)) (fun _ hk => hk.2) (.slice Ao19 t301.length co19)) (fun _ h_ => h_.1)))); (case side2 => exact (Kd.R_reads' HO295.out).2.1); (case side3 => refine (Kd.R_reads' (e := 23) (base := w.heap.size) (ok := fun k_ => (True ∧ some k_ ≠ (.slice Ao14 t293.length co14 : Value).ownBlock)) (n := t301.length) (c := co19) ?_).2.2; exact (by (with_reducible repeat (first | apply Kd.R_alloc | apply Kd.R_drewN | apply Kd.R_drew)); exact (Kd.R_mono (Kd.R_far (p := ⟨gb305, 3, none⟩) (Kd.R_far (p := ⟨gb305, 2, none⟩) (Kd.R_far (p := ⟨gb305, 1, none⟩) (Kd.R_far (p := ⟨gb305, 0, none⟩) (Kd.R_types HO303.out BK305.out (by decide)) (fun _ hk => hk.2) (.int .i64 t298)) (fun _ hk => hk.2) (.int .i64 t299)) (fun _ hk => hk.2) (.int .u8 t300)) (fun _ hk => hk.2) (.slice Ao19 t301.length co19)) (fun _ h_ => h_.1)))); (case side4 => exact (Kd.R_reads' HO303.out).2.1); rintro e w21 ⟨rfl, hb⟩; refine ⟨_, rfl, ?_⟩; have n0_ := Aside0.mk (Kd.R_below (by (with_reducible repeat (first | apply Kd.R_alloc | apply Kd.R_drewN | apply Kd.R_drew)); exact (Kd.R_mono (Kd.R_far (p := ⟨gb305, 3, none⟩) (Kd.R_far (p := ⟨gb305, 2, none⟩) (Kd.R_far (p := ⟨gb305, 1, none⟩) (Kd.R_far (p := ⟨gb305, 0, none⟩) (Kd.R_types HO295.out BK305.out (by decide)) (fun _ hk => hk.2) (.int .i64 t298)) (fun _ hk => hk.2) (.int .i64 t299)) (fun _ hk => hk.2) (.int .u8 t300)) (fun _ hk => hk.2) (.slice Ao19 t301.length co19)) (fun _ h_ => h_.1))) hb); have n1_ := Aside0.mk (Kd.R_below (by (with_reducible repeat (first | apply Kd.R_alloc | apply Kd.R_drewN | apply Kd.R_drew)); exact (Kd.R_mono (Kd.R_far (p := ⟨gb305, 3, none⟩) (Kd.R_far (p := ⟨gb305, 2, none⟩) (Kd.R_far (p := ⟨gb305, 1, none⟩) (Kd.R_far (p := ⟨gb305, 0, none⟩) (Kd.R_types HO303.out BK305.out (by decide)) (fun _ hk => hk.2) (.int .i64 t298)) (fun _ hk => hk.2) (.int .i64 t299)) (fun _ hk => hk.2) (.int .u8 t300)) (fun _ hk => hk.2) (.slice Ao19 t301.length co19)) (fun _ h_ => h_.1))) hb); have n2_ := Aside0.mk (blk_below (g := gb297) (o := .cells #[.int .i64 t290, .int .i64 t291, .int .u8 t292, .slice Ao14 t293.length co14] 26 (0, 0)) (bp_ BK297) hb); have n3_ := Aside0.mk (blk_below (g := gb305) (o := .cells #[.int .i64 t298, .int .i64 t299, .int .u8 t300, .slice Ao19 t301.length co19] 26 (0, 0)) (bp_ BK305) hb); have n4_ := bs_ HB hb; clear HO295; clear HO303; clear BK297; clear BK305; clear HB; have HO295 := n0_; have HO303 := n1_; have BK297 := n2_; have BK305 := n3_; have HB := n4_; clear n0_ n1_ n2_ n3_ n4_; (try clear hb)) | (go_at_call 3; (with_reducible refine (salvorlaw17_MapRuns.calls k  t307 _ A10.out ?tb4_).mono ?_); (case tb4_ => exact tb_ HTAB HB); rintro e w22 ⟨rfl, hb⟩; have n0_ := Aside0.mk (Kd.R_below (by (with_reducible repeat (first | apply Kd.R_alloc | apply Kd.R_drewN | apply Kd.R_drew)); exact HO295.out) hb); have n1_ := Aside0.mk (Kd.R_below (by (with_reducible repeat (first | apply Kd.R_alloc | apply Kd.R_drewN | apply Kd.R_drew)); exact HO303.out) hb); have n2_ := bb_ BK297 hb; have n3_ := bb_ BK305 hb; have n4_ := bs_ HB hb; clear HO295; clear HO303; clear BK297; clear BK305; clear HB; have HO295 := n0_; have HO303 := n1_; have BK297 := n2_; have BK305 := n3_; have HB := n4_; clear n0_ n1_ n2_ n3_ n4_; (try clear hb)))
    go_ret
    exact ⟨by first | rfl | (simp [errW_none, errW_some] <;> rfl) | (simp [*, errW_none, errW_some] <;> rfl), bh_ HB⟩
   ·rw [if_neg c9] at H
    have c9b0 : (t296 == t304) = false := beq_eq_false_iff_ne.mpr c9
    have c9b1 : (t296 != t304) = true := bne_iff_ne.mpr c9
    exact absurd ((Option.some.inj H).trans HT.out) (by simp)
  ·replace c8 := Bool.eq_false_iff.mpr c8
   subst c8
   have H1 : (some false) = some r := by rw [if_neg (show ¬ (false = true) by decide)] at H; exact H
   clear H
   have H := H1
   clear H1
   exact absurd ((Option.some.inj H).trans HT.out) (by simp)

end Go.Proofs.YtlcablcpcbmgeaaGreatDoor.P
