/- Laid by a program of this session's own (wip/wprint.py, over the kit's print.py): functions of the given program as plain Lean functions, and that the program's calls come to their answers. -/
import Derived.Test.YtlcablcpcbmgeaaGreatDoorPx0
import Derived.Test.YtlcablcpcbmgeaaGreatDoorPx5
import Derived.Test.YtlcablcpcbmgeaaGreatDoorPx10
import Derived.Test.YtlcablcpcbmgeaaGreatDoorPx21
import Derived.Test.YtlcablcpcbmgeaaGreatDoorPx22
namespace Go.Proofs.YtlcablcpcbmgeaaGreatDoor.P
open Go.RowKit Go.Proofs.YtlcablcpcbmgeaaGreatDoorW.PrintWords Go.Proofs.YtlcablcpcbmgeaaGreatDoorW.PrintLast Go.Proofs.YtlcablcpcbmgeaaGreatDoorW.PrintMore
attribute [local go_sem] max2_int min2_int max_two min_two max_three min_three max_four min_four   -- for this text's walks alone
set_option linter.unusedVariables false
set_option linter.unusedSimpArgs false

/-! ### salvorlaw17_MapRuns: function 3 -/
def salvorlaw17_MapRuns.g (k : Nat)  : Option (Bool) := (some (([(⟨0, 8, 63⟩ : S23)] : List (S23)) : List (S23))).bind fun y168 => ((maptext_Print.f k 0 0 63 y168).bind fun t172 => ((maptext_Parse.f k t172).bind fun bt173 => ((maptext_Parse.f k (⟨#[]⟩ : ByteArray)).bind fun bt181 => (if t172.toList = ([35, 32, 115, 97, 108, 118, 111, 114, 10, 48, 120, 48, 48, 48, 48, 48, 48, 48, 48, 32, 63, 32, 48, 10, 48, 120, 48, 48, 48, 48, 48, 48, 48, 48, 32, 48, 120, 48, 48, 48, 48, 48, 48, 48, 56, 32, 63, 10] : List UInt8) then (if bt173.2.2.2.2 = 0 then ((salvorref16_SameMap.f k bt173.1 bt173.2.1 bt173.2.2.1 bt173.2.2.2.1 0 0 63 y168).bind fun t189 => (if t189 = true then (if bt181.2.2.2.2 = 6 then ((maptext_May.f k 0 0 63 y168).bind fun t190 => (some t190)) else (some false)) else (some false))) else (some false)) else (some false)))))
theorem salvorlaw17_MapRuns.gmono : ∀ k, LeO (salvorlaw17_MapRuns.g k ) (salvorlaw17_MapRuns.g (k + 1) ) := by
 intro  k
 unfold salvorlaw17_MapRuns.g
 repeat' first
   | (with_reducible exact maptext_May.mono _ _ _ _ _)
   | (with_reducible exact maptext_Parse.mono _ _)
   | (with_reducible exact maptext_Print.mono _ _ _ _ _)
   | (with_reducible exact salvorref16_SameMap.mono _ _ _ _ _ _ _ _ _)
   | (with_reducible exact LeO.refl _)
   | (with_reducible exact LeO.none _)
   | (with_reducible refine LeO.ite ?_ ?_)
   | (with_reducible refine LeO.bind ?_ (fun _ => ?_))
   | exact maptext_May.mono _ _ _ _ _
   | exact maptext_Parse.mono _ _
   | exact maptext_Print.mono _ _ _ _ _
   | exact salvorref16_SameMap.mono _ _ _ _ _ _ _ _ _
   | exact LeO.none _
   | refine LeO.ite ?_ ?_
   | refine LeO.bind ?_ (fun _ => ?_)
set_option maxHeartbeats 8000000 in
set_option maxRecDepth 100000 in
theorem salvorlaw17_MapRuns.callsT (k : Nat)  (r : Bool) (w : World) (h : salvorlaw17_MapRuns.g k  = some r) (htab : TabAt w) (hrt : r = true) :
  Calls Tryz.prog 3 #[] w fun e w' => e = .returned (.bool r) ∧ Below w.heap.size w w' := by
 have HT := Aside0.mk hrt
 clear hrt
 have HTAB := Aside0.mk htab
 clear htab
 have hu23 := Tryz.underlying23
 have hu26 := Tryz.underlying26
 have HB := Aside0.mk (Below.refl w.heap.size w)
 have H : ((some (([(⟨0, 8, 63⟩ : S23)] : List (S23)) : List (S23))).bind fun y168 => ((maptext_Print.f k 0 0 63 y168).bind fun t172 => ((maptext_Parse.f k t172).bind fun bt173 => ((maptext_Parse.f k (⟨#[]⟩ : ByteArray)).bind fun bt181 => (if t172.toList = ([35, 32, 115, 97, 108, 118, 111, 114, 10, 48, 120, 48, 48, 48, 48, 48, 48, 48, 48, 32, 63, 32, 48, 10, 48, 120, 48, 48, 48, 48, 48, 48, 48, 48, 32, 48, 120, 48, 48, 48, 48, 48, 48, 48, 56, 32, 63, 10] : List UInt8) then (if bt173.2.2.2.2 = 0 then ((salvorref16_SameMap.f k bt173.1 bt173.2.1 bt173.2.2.1 bt173.2.2.2.1 0 0 63 y168).bind fun t189 => (if t189 = true then (if bt181.2.2.2.2 = 6 then ((maptext_May.f k 0 0 63 y168).bind fun t190 => (some t190)) else (some false)) else (some false))) else (some false)) else (some false)))))) = some r := h
 clear h
 obtain ⟨y168, hy168⟩ : ∃ y_ : List (S23), y_ = (([(⟨0, 8, 63⟩ : S23)] : List (S23))) := ⟨_, rfl⟩
 replace H : ((maptext_Print.f k 0 0 63 y168).bind fun t172 => ((maptext_Parse.f k t172).bind fun bt173 => ((maptext_Parse.f k (⟨#[]⟩ : ByteArray)).bind fun bt181 => (if t172.toList = ([35, 32, 115, 97, 108, 118, 111, 114, 10, 48, 120, 48, 48, 48, 48, 48, 48, 48, 48, 32, 63, 32, 48, 10, 48, 120, 48, 48, 48, 48, 48, 48, 48, 48, 32, 48, 120, 48, 48, 48, 48, 48, 48, 48, 56, 32, 63, 10] : List UInt8) then (if bt173.2.2.2.2 = 0 then ((salvorref16_SameMap.f k bt173.1 bt173.2.1 bt173.2.2.1 bt173.2.2.2.1 0 0 63 y168).bind fun t189 => (if t189 = true then (if bt181.2.2.2.2 = 6 then ((maptext_May.f k 0 0 63 y168).bind fun t190 => (some t190)) else (some false)) else (some false))) else (some false)) else (some false))))) = some r := by first | (rw [hy168]; with_reducible exact H) | (have H2_ := (Option.bind_some _ _).symm.trans H; rw [hy168]; with_reducible exact H2_) | (have H2_ := (Option.bind_some _ _).symm.trans H; with_reducible exact H2_) | with_reducible exact H | (rw [hy168]; exact H) | exact H
 have Ny168 := Aside0.mk hy168
 clear hy168
 replace H := Option.bind_eq_some_iff.mp H
 obtain ⟨t172, A10, H⟩ := H
 replace H : ((maptext_Parse.f k t172).bind fun bt173 => ((maptext_Parse.f k (⟨#[]⟩ : ByteArray)).bind fun bt181 => (if t172.toList = ([35, 32, 115, 97, 108, 118, 111, 114, 10, 48, 120, 48, 48, 48, 48, 48, 48, 48, 48, 32, 63, 32, 48, 10, 48, 120, 48, 48, 48, 48, 48, 48, 48, 48, 32, 48, 120, 48, 48, 48, 48, 48, 48, 48, 56, 32, 63, 10] : List UInt8) then (if bt173.2.2.2.2 = 0 then ((salvorref16_SameMap.f k bt173.1 bt173.2.1 bt173.2.2.1 bt173.2.2.2.1 0 0 63 y168).bind fun t189 => (if t189 = true then (if bt181.2.2.2.2 = 6 then ((maptext_May.f k 0 0 63 y168).bind fun t190 => (some t190)) else (some false)) else (some false))) else (some false)) else (some false)))) = some r := H
 have A1 := Aside0.mk A10
 clear A10
 replace H := Option.bind_eq_some_iff.mp H
 obtain ⟨⟨t173, t174, t175, t176, t179⟩, A20, H⟩ := H
 replace H : ((maptext_Parse.f k (⟨#[]⟩ : ByteArray)).bind fun bt181 => (if t172.toList = ([35, 32, 115, 97, 108, 118, 111, 114, 10, 48, 120, 48, 48, 48, 48, 48, 48, 48, 48, 32, 63, 32, 48, 10, 48, 120, 48, 48, 48, 48, 48, 48, 48, 48, 32, 48, 120, 48, 48, 48, 48, 48, 48, 48, 56, 32, 63, 10] : List UInt8) then (if t179 = 0 then ((salvorref16_SameMap.f k t173 t174 t175 t176 0 0 63 y168).bind fun t189 => (if t189 = true then (if bt181.2.2.2.2 = 6 then ((maptext_May.f k 0 0 63 y168).bind fun t190 => (some t190)) else (some false)) else (some false))) else (some false)) else (some false))) = some r := H
 have A2 := Aside0.mk A20
 clear A20
 replace H := Option.bind_eq_some_iff.mp H
 obtain ⟨⟨t181, t182, t183, t184, t187⟩, A30, H⟩ := H
 replace H : (if t172.toList = ([35, 32, 115, 97, 108, 118, 111, 114, 10, 48, 120, 48, 48, 48, 48, 48, 48, 48, 48, 32, 63, 32, 48, 10, 48, 120, 48, 48, 48, 48, 48, 48, 48, 48, 32, 48, 120, 48, 48, 48, 48, 48, 48, 48, 56, 32, 63, 10] : List UInt8) then (if t179 = 0 then ((salvorref16_SameMap.f k t173 t174 t175 t176 0 0 63 y168).bind fun t189 => (if t189 = true then (if t187 = 6 then ((maptext_May.f k 0 0 63 y168).bind fun t190 => (some t190)) else (some false)) else (some false))) else (some false)) else (some false)) = some r := H
 have A3 := Aside0.mk A30
 clear A30
 by_cases c4 : t172.toList = ([35, 32, 115, 97, 108, 118, 111, 114, 10, 48, 120, 48, 48, 48, 48, 48, 48, 48, 48, 32, 63, 32, 48, 10, 48, 120, 48, 48, 48, 48, 48, 48, 48, 48, 32, 48, 120, 48, 48, 48, 48, 48, 48, 48, 56, 32, 63, 10] : List UInt8)
 ·rw [if_pos c4] at H
  have c4b0 : (t172.toList == ([35, 32, 115, 97, 108, 118, 111, 114, 10, 48, 120, 48, 48, 48, 48, 48, 48, 48, 48, 32, 63, 32, 48, 10, 48, 120, 48, 48, 48, 48, 48, 48, 48, 48, 32, 48, 120, 48, 48, 48, 48, 48, 48, 48, 56, 32, 63, 10] : List UInt8)) = true := beq_iff_eq.mpr c4
  have c4b1 : (t172.toList != ([35, 32, 115, 97, 108, 118, 111, 114, 10, 48, 120, 48, 48, 48, 48, 48, 48, 48, 48, 32, 63, 32, 48, 10, 48, 120, 48, 48, 48, 48, 48, 48, 48, 48, 32, 48, 120, 48, 48, 48, 48, 48, 48, 48, 56, 32, 63, 10] : List UInt8)) = false := bne_eq_false_iff_eq.mpr c4
  clear c4
  by_cases c5 : t179 = 0
  ·rw [if_pos c5] at H
   have c5b0 : (t179 == 0) = true := beq_iff_eq.mpr c5
   have c5b1 : (t179 != 0) = false := bne_eq_false_iff_eq.mpr c5
   clear c5
   replace H := Option.bind_eq_some_iff.mp H
   obtain ⟨t189, A60, H⟩ := H
   replace H : (if t189 = true then (if t187 = 6 then ((maptext_May.f k 0 0 63 y168).bind fun t190 => (some t190)) else (some false)) else (some false)) = some r := H
   have A6 := Aside0.mk A60
   clear A60
   by_cases c7 : t189 = true
   ·subst c7
    have H1 : (if t187 = 6 then ((maptext_May.f k 0 0 63 y168).bind fun t190 => (some t190)) else (some false)) = some r := by rw [if_pos rfl] at H; exact H
    clear H
    have H := H1
    clear H1
    by_cases c8 : t187 = 6
    ·rw [if_pos c8] at H
     have c8b0 : (t187 == 6) = true := beq_iff_eq.mpr c8
     have c8b1 : (t187 != 6) = false := bne_eq_false_iff_eq.mpr c8
     clear c8
     replace H := Option.bind_eq_some_iff.mp H
     obtain ⟨t190, A90, H⟩ := H
     replace H : (some t190) = some r := H
     have A9 := Aside0.mk A90
     clear A90
     obtain rfl := Option.some.inj H
     go_enter Tryz.func3, Tryz.ntmps3
     go_wp2_with (first | ((with_reducible refine gate_dst (N := 8) rfl ?_); refine Kd.R_lit k23 _ 23 ?hg (N := 8) ?hd (xs := ([(⟨0, 8, 63⟩ : S23)] : List (S23))) (inner := [.int .i64 0, .int .i64 8, .int .u8 63]) (ok := fun _ => True) (okp := fun _ => True) ?hr ?hp (fun _ hk => hk) trivial (Below.refl _ _) (Nat.le_refl _) (by simp) ?_; (case hd => rfl); (case hg => rfl); (case hr => first | (go_simp; done) | (go_simp; rfl)); (case hp => exact (Reps.c3 (show Kd.M k23 _ _ _ (⟨0, 8, 63⟩ : S23) [.int .i64 0, .int .i64 8, .int .u8 63] from (k23_mkM _ _ _ (⟨0, 8, 63⟩ : S23) )) (Reps.none _ _))); intro v169 w10 ho11 hb hg_ hnew_; clear hg_ hnew_; (first | rw [← Ny168.out] at ho11 | (simp only [Int.reduceToNat] at ho11; rw [← Ny168.out] at ho11)); have HO170 := Aside0.mk (Kd.R_lower ho11 (below_size (bh_ HB))); replace HB := bs_ HB hb; clear hb ho11; obtain ⟨Ao12, co12, eo12⟩ := Kd.R_slice HO170.out; subst eo12) | ((with_reducible refine gate_dst (N := 1) rfl ?_); refine box_e 1 #[.int .i64 0, .int .i64 0, .int .u8 0, .slice none 0 0] 26 ?_; intro gb171 hg w13 hbox hb; have n0_ := Aside0.mk (Kd.R_below (by (with_reducible repeat (first | apply Kd.R_alloc | apply Kd.R_drewN | apply Kd.R_drew)); exact HO170.out) hb); have n1_ := bs_ HB hb; have n2_ := Aside0.mk hbox; have n3_ := bg_ HB hg; have n4_ := bg_ HB hg; clear HO170; clear HB; have HO170 := n0_; have HB := n1_; have BK171 := n2_; have GW171 := n3_; have GE171 := n4_; clear n0_ n1_ n2_ n3_ n4_; clear hb hbox hg; obtain ⟨hcz14_0, hcz14_1, hcz14_2, hcz14_3, hfz14_0, hfz14_1, hfz14_2, hfz14_3⟩ := c4_ BK171) | ((with_reducible refine gate_callee (f := 10) rfl ?_); refine gl_ (some 11) rfl rfl Tryz.func10 (by kernel_rfl) rfl #[.agg #[.int .i64 0, .int .i64 0, .int .u8 63, .slice Ao12 y168.length co12]] rfl ?_; (with_reducible refine (maptext_Print.calls k 0 0 63 _ _ y168 t172 _ ?side1 ?side2 A1.out ?tb0_).mono ?_); (case tb0_ => exact tb_ HTAB HB); (case side1 => refine (Kd.R_reads' (e := 23) (base := w.heap.size) (ok := fun k_ => True) (n := y168.length) (c := co12) ?_).2.2; exact (by (with_reducible repeat (first | apply Kd.R_alloc | apply Kd.R_drewN | apply Kd.R_drew)); exact (Kd.R_mono (Kd.R_far (p := ⟨gb171, 3, none⟩) (Kd.R_far (p := ⟨gb171, 2, none⟩) (Kd.R_far (p := ⟨gb171, 1, none⟩) (Kd.R_far (p := ⟨gb171, 0, none⟩) (Kd.R_types HO170.out BK171.out (by decide)) (fun _ hk => hk.2) (.int .i64 0)) (fun _ hk => hk.2) (.int .i64 0)) (fun _ hk => hk.2) (.int .u8 63)) (fun _ hk => hk.2) (.slice Ao12 y168.length co12)) (fun _ h_ => h_.1)))); (case side2 => exact (Kd.R_reads' HO170.out).2.1); rintro e w15 ⟨rfl, hb⟩; refine ⟨_, rfl, ?_⟩; have n0_ := Aside0.mk (Kd.R_below (by (with_reducible repeat (first | apply Kd.R_alloc | apply Kd.R_drewN | apply Kd.R_drew)); exact (Kd.R_mono (Kd.R_far (p := ⟨gb171, 3, none⟩) (Kd.R_far (p := ⟨gb171, 2, none⟩) (Kd.R_far (p := ⟨gb171, 1, none⟩) (Kd.R_far (p := ⟨gb171, 0, none⟩) (Kd.R_types HO170.out BK171.out (by decide)) (fun _ hk => hk.2) (.int .i64 0)) (fun _ hk => hk.2) (.int .i64 0)) (fun _ hk => hk.2) (.int .u8 63)) (fun _ hk => hk.2) (.slice Ao12 y168.length co12)) (fun _ h_ => h_.1))) hb); have n1_ := Aside0.mk (blk_below (g := gb171) (o := .cells #[.int .i64 0, .int .i64 0, .int .u8 63, .slice Ao12 y168.length co12] 26 (0, 0)) (bp_ BK171) hb); have n2_ := bs_ HB hb; clear HO170; clear BK171; clear HB; have HO170 := n0_; have BK171 := n1_; have HB := n2_; clear n0_ n1_ n2_; (try clear hb)) | ((with_reducible refine gate_callee (f := 11) rfl ?_); refine gl_ (some 14) rfl rfl Tryz.func11 (by kernel_rfl) rfl #[.string t172] rfl ?_; (with_reducible refine (maptext_Parse.calls k t172 t173 t174 t175 t176 t179 _ A2.out ?tb2_).mono ?_); (case tb2_ => exact tb_ HTAB HB); rintro e w16 ⟨v177, rfl, ho0, hb⟩; refine ⟨_, rfl, ?_⟩; have n0_ := Aside0.mk (Kd.R_elder' (by (with_reducible repeat (first | apply Kd.R_alloc | apply Kd.R_drewN | apply Kd.R_drew)); exact HO170.out) (Kd.R_base ho0) hb); have n1_ := Aside0.mk (Kd.R_lower (Kd.R_new' ho0 (Kd.R_lt (by (with_reducible repeat (first | apply Kd.R_alloc | apply Kd.R_drewN | apply Kd.R_drew)); exact HO170.out))) (below_size (bh_ HB))); have n2_ := bb_ BK171 hb; have n3_ := bs_ HB hb; clear HO170; clear BK171; clear HB; have HO170 := n0_; have HO178 := n1_; have BK171 := n2_; have HB := n3_; clear n0_ n1_ n2_ n3_; (try clear hb); (try clear hb2); (try clear hk); (try clear hi); (try clear ho0)) | ((with_reducible refine gate_dst (N := 3) rfl ?_); refine box_e 3 #[.int .i64 0, .int .i64 0, .int .u8 0, .slice none 0 0] 26 ?_; intro gb180 hg w17 hbox hb; have n0_ := Aside0.mk (Kd.R_below (by (with_reducible repeat (first | apply Kd.R_alloc | apply Kd.R_drewN | apply Kd.R_drew)); exact HO170.out) hb); have n1_ := Aside0.mk (Kd.R_below (by (with_reducible repeat (first | apply Kd.R_alloc | apply Kd.R_drewN | apply Kd.R_drew)); exact HO178.out) hb); have n2_ := bb_ BK171 hb; have n3_ := bs_ HB hb; have n4_ := Aside0.mk hbox; have n5_ := bg_ HB hg; have n6_ := bg_ HB hg; have n7_ := bn_ BK171 hg; have n8_ := bm_ BK171 hg; clear HO170; clear HO178; clear BK171; clear HB; have HO170 := n0_; have HO178 := n1_; have BK171 := n2_; have HB := n3_; have BK180 := n4_; have GW180 := n5_; have GE180 := n6_; have NB171_180 := n7_; have NB180_171 := n8_; clear n0_ n1_ n2_ n3_ n4_ n5_ n6_ n7_ n8_; clear hb hbox hg; have hnb18 := NB180_171.out; have hnc18 := NB171_180.out; obtain ⟨hcz19_0, hcz19_1, hcz19_2, hcz19_3, hfz19_0, hfz19_1, hfz19_2, hfz19_3⟩ := c4_ BK180; obtain ⟨Ao20, co20, eo20⟩ := Kd.R_slice HO178.out; subst eo20) | ((with_reducible refine gate_callee (f := 11) rfl ?_); refine gl_ (some 18) rfl rfl Tryz.func11 (by kernel_rfl) rfl #[.string (⟨#[]⟩ : ByteArray)] rfl ?_; (with_reducible refine (maptext_Parse.calls k (⟨#[]⟩ : ByteArray) t181 t182 t183 t184 t187 _ A3.out ?tb4_).mono ?_); (case tb4_ => exact tb_ HTAB HB); rintro e w21 ⟨v185, rfl, ho0, hb⟩; refine ⟨_, rfl, ?_⟩; have n0_ := Aside0.mk (Kd.R_elder' (by (with_reducible repeat (first | apply Kd.R_alloc | apply Kd.R_drewN | apply Kd.R_drew)); exact (Kd.R_mono (Kd.R_far (p := ⟨gb180, 3, none⟩) (Kd.R_far (p := ⟨gb180, 2, none⟩) (Kd.R_far (p := ⟨gb180, 1, none⟩) (Kd.R_far (p := ⟨gb180, 0, none⟩) (Kd.R_types HO170.out BK180.out (by decide)) (fun _ hk => hk.2) (.int .i64 t173)) (fun _ hk => hk.2) (.int .i64 t174)) (fun _ hk => hk.2) (.int .u8 t175)) (fun _ hk => hk.2) (.slice Ao20 t176.length co20)) (fun _ h_ => h_.1))) (Kd.R_base ho0) hb); have n1_ := Aside0.mk (Kd.R_elder' (by (with_reducible repeat (first | apply Kd.R_alloc | apply Kd.R_drewN | apply Kd.R_drew)); exact (Kd.R_mono (Kd.R_far (p := ⟨gb180, 3, none⟩) (Kd.R_far (p := ⟨gb180, 2, none⟩) (Kd.R_far (p := ⟨gb180, 1, none⟩) (Kd.R_far (p := ⟨gb180, 0, none⟩) (Kd.R_types HO178.out BK180.out (by decide)) (fun _ hk => hk.2) (.int .i64 t173)) (fun _ hk => hk.2) (.int .i64 t174)) (fun _ hk => hk.2) (.int .u8 t175)) (fun _ hk => hk.2) (.slice Ao20 t176.length co20)) (fun _ h_ => h_.1))) (Kd.R_base ho0) hb); have n2_ := Aside0.mk (Kd.R_lower (Kd.R_new' (Kd.R_new' ho0 (Kd.R_lt (by (with_reducible repeat (first | apply Kd.R_alloc | apply Kd.R_drewN | apply Kd.R_drew)); exact (Kd.R_mono (Kd.R_far (p := ⟨gb180, 3, none⟩) (Kd.R_far (p := ⟨gb180, 2, none⟩) (Kd.R_far (p := ⟨gb180, 1, none⟩) (Kd.R_far (p := ⟨gb180, 0, none⟩) (Kd.R_types HO170.out BK180.out (by decide)) (fun _ hk => hk.2) (.int .i64 t173)) (fun _ hk => hk.2) (.int .i64 t174)) (fun _ hk => hk.2) (.int .u8 t175)) (fun _ hk => hk.2) (.slice Ao20 t176.length co20)) (fun _ h_ => h_.1))))) (Kd.R_lt (by (with_reducible repeat (first | apply Kd.R_alloc | apply Kd.R_drewN | apply Kd.R_drew)); exact (Kd.R_mono (Kd.R_far (p := ⟨gb180, 3, none⟩) (Kd.R_far (p := ⟨gb180, 2, none⟩) (Kd.R_far (p := ⟨gb180, 1, none⟩) (Kd.R_far (p := ⟨gb180, 0, none⟩) (Kd.R_types HO178.out BK180.out (by decide)) (fun _ hk => hk.2) (.int .i64 t173)) (fun _ hk => hk.2) (.int .i64 t174)) (fun _ hk => hk.2) (.int .u8 t175)) (fun _ hk => hk.2) (.slice Ao20 t176.length co20)) (fun _ h_ => h_.1))))) (below_size (bh_ HB))); have n3_ := Aside0.mk (blk_below (g := gb171) (o := .cells #[.int .i64 0, .int .i64 0, .int .u8 63, .slice Ao12 y168.length co12] 26 (0, 0)) (bp_ BK171) hb); have n4_ := Aside0.mk (blk_below (g := gb180) (o := .cells #[.int .i64 t173, .int .i64 t174, .int .u8 t175, .slice Ao20 t176.length co20] 26 (0, 0)) (bp_ BK180) hb); have n5_ := bs_ HB hb; clear HO170; clear HO178; clear BK171; clear BK180; clear HB; have HO170 := n0_; have HO178 := n1_; have HO186 := n2_; have BK171 := n3_; have BK180 := n4_; have HB := n5_; clear n0_ n1_ n2_ n3_ n4_ n5_; (try clear hb); (try clear hb2); (try clear hk); (try clear hi); (try clear ho0)) | ((with_reducible refine gate_dst (N := 5) rfl ?_); refine box_e 5 #[.int .i64 0, .int .i64 0, .int .u8 0, .slice none 0 0] 26 ?_; intro gb188 hg w22 hbox hb; have n0_ := Aside0.mk (Kd.R_below (by (with_reducible repeat (first | apply Kd.R_alloc | apply Kd.R_drewN | apply Kd.R_drew)); exact HO170.out) hb); have n1_ := Aside0.mk (Kd.R_below (by (with_reducible repeat (first | apply Kd.R_alloc | apply Kd.R_drewN | apply Kd.R_drew)); exact HO178.out) hb); have n2_ := Aside0.mk (Kd.R_below (by (with_reducible repeat (first | apply Kd.R_alloc | apply Kd.R_drewN | apply Kd.R_drew)); exact HO186.out) hb); have n3_ := bb_ BK171 hb; have n4_ := bb_ BK180 hb; have n5_ := bs_ HB hb; have n6_ := Aside0.mk hbox; have n7_ := bg_ HB hg; have n8_ := bg_ HB hg; have n9_ := bn_ BK171 hg; have n10_ := bm_ BK171 hg; have n11_ := bn_ BK180 hg; have n12_ := bm_ BK180 hg; clear HO170; clear HO178; clear HO186; clear BK171; clear BK180; clear HB; have HO170 := n0_; have HO178 := n1_; have HO186 := n2_; have BK171 := n3_; have BK180 := n4_; have HB := n5_; have BK188 := n6_; have GW188 := n7_; have GE188 := n8_; have NB171_188 := n9_; have NB188_171 := n10_; have NB180_188 := n11_; have NB188_180 := n12_; clear n0_ n1_ n2_ n3_ n4_ n5_ n6_ n7_ n8_ n9_ n10_ n11_ n12_; clear hb hbox hg; have hnb23 := NB188_171.out; have hnc23 := NB171_188.out; have hnb24 := NB188_180.out; have hnc24 := NB180_188.out; obtain ⟨hcz25_0, hcz25_1, hcz25_2, hcz25_3, hfz25_0, hfz25_1, hfz25_2, hfz25_3⟩ := c4_ BK188; obtain ⟨Ao26, co26, eo26⟩ := Kd.R_slice HO186.out; subst eo26; obtain ⟨hcz27_0, hcz27_1, hcz27_2, hcz27_3, hfz27_0, hfz27_1, hfz27_2, hfz27_3⟩ := c4_ BK180; obtain ⟨hcz28_0, hcz28_1, hcz28_2, hcz28_3, hfz28_0, hfz28_1, hfz28_2, hfz28_3⟩ := c4_ BK171) | (go_at_call 12; (with_reducible refine (salvorref16_SameMap.calls k t173 t174 t175 _ _ t176 0 0 63 _ _ y168 true _ ?side1 ?side2 ?side3 ?side4 A6.out).mono ?_); (case side1 => refine (Kd.R_reads' (e := 23) (base := w.heap.size) (ok := fun k_ => ((True ∧ some k_ ≠ (.slice Ao12 y168.length co12 : Value).ownBlock) ∧ some k_ ≠ (.slice Ao26 t184.length co26 : Value).ownBlock)) (n := t176.length) (c := co20) ?_).2.2; exact (by (with_reducible repeat (first | apply Kd.R_alloc | apply Kd.R_drewN | apply Kd.R_drew)); exact (Kd.R_mono (Kd.R_far (p := ⟨gb188, 3, none⟩) (Kd.R_far (p := ⟨gb188, 2, none⟩) (Kd.R_far (p := ⟨gb188, 1, none⟩) (Kd.R_far (p := ⟨gb188, 0, none⟩) (Kd.R_types HO178.out BK188.out (by decide)) (fun _ hk => hk.2) (.int .i64 t181)) (fun _ hk => hk.2) (.int .i64 t182)) (fun _ hk => hk.2) (.int .u8 t183)) (fun _ hk => hk.2) (.slice Ao26 t184.length co26)) (fun _ h_ => h_.1)))); (case side2 => exact (Kd.R_reads' HO178.out).2.1); (case side3 => refine (Kd.R_reads' (e := 23) (base := w.heap.size) (ok := fun k_ => ((True ∧ some k_ ≠ (.slice Ao20 t176.length co20 : Value).ownBlock) ∧ some k_ ≠ (.slice Ao26 t184.length co26 : Value).ownBlock)) (n := y168.length) (c := co12) ?_).2.2; exact (by (with_reducible repeat (first | apply Kd.R_alloc | apply Kd.R_drewN | apply Kd.R_drew)); exact (Kd.R_mono (Kd.R_far (p := ⟨gb188, 3, none⟩) (Kd.R_far (p := ⟨gb188, 2, none⟩) (Kd.R_far (p := ⟨gb188, 1, none⟩) (Kd.R_far (p := ⟨gb188, 0, none⟩) (Kd.R_types HO170.out BK188.out (by decide)) (fun _ hk => hk.2) (.int .i64 t181)) (fun _ hk => hk.2) (.int .i64 t182)) (fun _ hk => hk.2) (.int .u8 t183)) (fun _ hk => hk.2) (.slice Ao26 t184.length co26)) (fun _ h_ => h_.1)))); (case side4 => exact (Kd.R_reads' HO170.out).2.1); rintro e w29 ⟨rfl, hb⟩; have n0_ := Aside0.mk (Kd.R_below (by (with_reducible repeat (first | apply Kd.R_alloc | apply Kd.R_drewN | apply Kd.R_drew)); exact (Kd.R_mono (Kd.R_far (p := ⟨gb188, 3, none⟩) (Kd.R_far (p := ⟨gb188, 2, none⟩) (Kd.R_far (p := ⟨gb188, 1, none⟩) (Kd.R_far (p := ⟨gb188, 0, none⟩) (Kd.R_types HO170.out BK188.out (by decide)) (fun _ hk => hk.2) (.int .i64 t181)) (fun _ hk => hk.2) (.int .i64 t182)) (fun _ hk => hk.2) (.int .u8 t183)) (fun _ hk => hk.2) (.slice Ao26 t184.length co26)) (fun _ h_ => h_.1))) hb); have n1_ := Aside0.mk (Kd.R_below (by (with_reducible repeat (first | apply Kd.R_alloc | apply Kd.R_drewN | apply Kd.R_drew)); exact (Kd.R_mono (Kd.R_far (p := ⟨gb188, 3, none⟩) (Kd.R_far (p := ⟨gb188, 2, none⟩) (Kd.R_far (p := ⟨gb188, 1, none⟩) (Kd.R_far (p := ⟨gb188, 0, none⟩) (Kd.R_types HO178.out BK188.out (by decide)) (fun _ hk => hk.2) (.int .i64 t181)) (fun _ hk => hk.2) (.int .i64 t182)) (fun _ hk => hk.2) (.int .u8 t183)) (fun _ hk => hk.2) (.slice Ao26 t184.length co26)) (fun _ h_ => h_.1))) hb); have n2_ := Aside0.mk (Kd.R_below (by (with_reducible repeat (first | apply Kd.R_alloc | apply Kd.R_drewN | apply Kd.R_drew)); exact (Kd.R_mono (Kd.R_far (p := ⟨gb188, 3, none⟩) (Kd.R_far (p := ⟨gb188, 2, none⟩) (Kd.R_far (p := ⟨gb188, 1, none⟩) (Kd.R_far (p := ⟨gb188, 0, none⟩) (Kd.R_types HO186.out BK188.out (by decide)) (fun _ hk => hk.2) (.int .i64 t181)) (fun _ hk => hk.2) (.int .i64 t182)) (fun _ hk => hk.2) (.int .u8 t183)) (fun _ hk => hk.2) (.slice Ao26 t184.length co26)) (fun _ h_ => h_.1))) hb); have n3_ := Aside0.mk (blk_below (g := gb171) (o := .cells #[.int .i64 0, .int .i64 0, .int .u8 63, .slice Ao12 y168.length co12] 26 (0, 0)) (bp_ BK171) hb); have n4_ := Aside0.mk (blk_below (g := gb180) (o := .cells #[.int .i64 t173, .int .i64 t174, .int .u8 t175, .slice Ao20 t176.length co20] 26 (0, 0)) (bp_ BK180) hb); have n5_ := Aside0.mk (blk_below (g := gb188) (o := .cells #[.int .i64 t181, .int .i64 t182, .int .u8 t183, .slice Ao26 t184.length co26] 26 (0, 0)) (bp_ BK188) hb); have n6_ := bs_ HB hb; clear HO170; clear HO178; clear HO186; clear BK171; clear BK180; clear BK188; clear HB; have HO170 := n0_; have HO178 := n1_; have HO186 := n2_; have BK171 := n3_; have BK180 := n4_; have BK188 := n5_; have HB := n6_; clear n0_ n1_ n2_ n3_ n4_ n5_ n6_; (try clear hb); obtain ⟨hcz30_0, hcz30_1, hcz30_2, hcz30_3, hfz30_0, hfz30_1, hfz30_2, hfz30_3⟩ := c4_ BK171) | (go_at_call 13; (with_reducible refine (maptext_May.calls k 0 0 63 _ _ y168 t190 _ ?side1 ?side2 A9.out).mono ?_); (case side1 => repeat (first | exact (Kd.R_reads' HO170.out).2.2 | (with_reducible refine Kd.C_alloc ?_ _) | (with_reducible refine Kd.C_drewN ?_ _) | (with_reducible refine Kd.C_drew ?_))); (case side2 => exact (Kd.R_reads' HO170.out).2.1); rintro e w31 ⟨rfl, hb⟩; have n0_ := Aside0.mk (Kd.R_below (by (with_reducible repeat (first | apply Kd.R_alloc | apply Kd.R_drewN | apply Kd.R_drew)); exact HO170.out) hb); have n1_ := Aside0.mk (Kd.R_below (by (with_reducible repeat (first | apply Kd.R_alloc | apply Kd.R_drewN | apply Kd.R_drew)); exact HO178.out) hb); have n2_ := Aside0.mk (Kd.R_below (by (with_reducible repeat (first | apply Kd.R_alloc | apply Kd.R_drewN | apply Kd.R_drew)); exact HO186.out) hb); have n3_ := bb_ BK171 hb; have n4_ := bb_ BK180 hb; have n5_ := bb_ BK188 hb; have n6_ := bs_ HB hb; clear HO170; clear HO178; clear HO186; clear BK171; clear BK180; clear BK188; clear HB; have HO170 := n0_; have HO178 := n1_; have HO186 := n2_; have BK171 := n3_; have BK180 := n4_; have BK188 := n5_; have HB := n6_; clear n0_ n1_ n2_ n3_ n4_ n5_ n6_; (try clear hb)))
     go_ret
     exact ⟨by first | rfl | (simp [errW_none, errW_some] <;> rfl) | (simp [*, errW_none, errW_some] <;> rfl), bh_ HB⟩
    ·rw [if_neg c8] at H
     have c8b0 : (t187 == 6) = false := beq_eq_false_iff_ne.mpr c8
     have c8b1 : (t187 != 6) = true := bne_iff_ne.mpr c8
     exact absurd ((Option.some.inj H).trans HT.out) (by simp)
   ·replace c7 := Bool.eq_false_iff.mpr c7
    subst c7
    have H1 : (some false) = some r := by rw [if_neg (show ¬ (false = true) by decide)] at H; exact H
    clear H
    have H := H1
    clear H1
    exact absurd ((Option.some.inj H).trans HT.out) (by simp)
  ·rw [if_neg c5] at H
   have c5b0 : (t179 == 0) = false := beq_eq_false_iff_ne.mpr c5
   have c5b1 : (t179 != 0) = true := bne_iff_ne.mpr c5
   exact absurd ((Option.some.inj H).trans HT.out) (by simp)
 ·rw [if_neg c4] at H
  have c4b0 : (t172.toList == ([35, 32, 115, 97, 108, 118, 111, 114, 10, 48, 120, 48, 48, 48, 48, 48, 48, 48, 48, 32, 63, 32, 48, 10, 48, 120, 48, 48, 48, 48, 48, 48, 48, 48, 32, 48, 120, 48, 48, 48, 48, 48, 48, 48, 56, 32, 63, 10] : List UInt8)) = false := beq_eq_false_iff_ne.mpr c4
  have c4b1 : (t172.toList != ([35, 32, 115, 97, 108, 118, 111, 114, 10, 48, 120, 48, 48, 48, 48, 48, 48, 48, 48, 32, 63, 32, 48, 10, 48, 120, 48, 48, 48, 48, 48, 48, 48, 48, 32, 48, 120, 48, 48, 48, 48, 48, 48, 48, 56, 32, 63, 10] : List UInt8)) = true := bne_iff_ne.mpr c4
  exact absurd ((Option.some.inj H).trans HT.out) (by simp)
def salvorlaw17_MapRuns.f (k : Nat) : Option (Bool) := (salvorlaw17_MapRuns.g k).bind fun b => if b = true then some true else none
theorem salvorlaw17_MapRuns.mono : ∀ k, LeO (salvorlaw17_MapRuns.f k) (salvorlaw17_MapRuns.f (k + 1)) := fun k => LeO.bind (salvorlaw17_MapRuns.gmono k) (fun _ => LeO.refl _)
theorem salvorlaw17_MapRuns.calls (k : Nat) (r : Bool) (w : World) (h : salvorlaw17_MapRuns.f k = some r) (htab : TabAt w) : Calls Tryz.prog 3 #[] w fun e w' => e = .returned (.bool r) ∧ Below w.heap.size w w' := by
  obtain ⟨b, hb, h1⟩ := Option.bind_eq_some_iff.mp h
  cases b with
  | false => simp at h1
  | true =>
    rw [if_pos rfl] at h1
    obtain rfl := Option.some.inj h1
    exact salvorlaw17_MapRuns.callsT k true w hb htab rfl

/-! ### salvorlaw16_Few: function 14 -/
def salvorlaw16_Few.f (l0 : List (S23)) : Option (Bool) := some (decide ((l0.length : Int) ≤ 80))
set_option maxHeartbeats 8000000 in
set_option maxRecDepth 100000 in
theorem salvorlaw16_Few.calls (A0 : Option Addr) (c0 : Nat) (l0 : List (S23)) (r : Bool) (w : World) (hr0 : Kd.C k23 w A0 l0.length l0) (hc0 : l0.length ≤ c0) (h : salvorlaw16_Few.f l0 = some r) :
    Calls Tryz.prog 14 #[.slice A0 l0.length c0] w fun e w' => e = .returned (.bool r) ∧ Drawn0 w w' := by
  have HR0 := Aside0.mk hr0
  have HC0 := Aside0.mk hc0
  clear hr0 hc0
  have H : (some (decide ((l0.length : Int) ≤ 80))) = some r := h
  clear h
  obtain rfl := Option.some.inj H
  go_enter Tryz.func14, Tryz.ntmps14
  go_wp2
  go_ret
  exact ⟨by first | rfl | (simp; done) | (simp [*]; done), by repeat (first | exact Drawn0.refl _ | apply Drawn0.step)⟩

/-! ### salvorref16_status: function 40 -/
def salvorref16_status.f (a0 : Int) : Option (Bool) := if a0 = 63 then (some true) else (if a0 = 42 then (some true) else (if a0 = 47 then (some true) else (if a0 = 45 then (some true) else (some (a0 == 43)))))
set_option maxHeartbeats 8000000 in
set_option maxRecDepth 100000 in
theorem salvorref16_status.calls (a0 : Int) (r : Bool) (w : World) (h : salvorref16_status.f a0 = some r) :
    Calls Tryz.prog 40 #[.int .u8 a0] w fun e w' => e = .returned (.bool r) ∧ Drawn0 w w' := by
  have H : (if a0 = 63 then (some true) else (if a0 = 42 then (some true) else (if a0 = 47 then (some true) else (if a0 = 45 then (some true) else (some (a0 == 43)))))) = some r := h
  clear h
  by_cases c2 : a0 = 63
  · rw [if_pos c2] at H
    have c2b0 : (a0 == 63) = true := beq_iff_eq.mpr c2
    have c2b1 : (a0 != 63) = false := bne_eq_false_iff_eq.mpr c2
    clear c2
    obtain rfl := Option.some.inj H
    go_enter Tryz.func40, Tryz.ntmps40
    go_wp2
    go_ret
    exact ⟨by first | rfl | (simp; done) | (simp [*]; done), by repeat (first | exact Drawn0.refl _ | apply Drawn0.step)⟩
  · rw [if_neg c2] at H
    have c2b0 : (a0 == 63) = false := beq_eq_false_iff_ne.mpr c2
    have c2b1 : (a0 != 63) = true := bne_iff_ne.mpr c2
    by_cases c3 : a0 = 42
    · rw [if_pos c3] at H
      have c3b0 : (a0 == 42) = true := beq_iff_eq.mpr c3
      have c3b1 : (a0 != 42) = false := bne_eq_false_iff_eq.mpr c3
      clear c3
      obtain rfl := Option.some.inj H
      go_enter Tryz.func40, Tryz.ntmps40
      go_wp2
      go_ret
      exact ⟨by first | rfl | (simp; done) | (simp [*]; done), by repeat (first | exact Drawn0.refl _ | apply Drawn0.step)⟩
    · rw [if_neg c3] at H
      have c3b0 : (a0 == 42) = false := beq_eq_false_iff_ne.mpr c3
      have c3b1 : (a0 != 42) = true := bne_iff_ne.mpr c3
      by_cases c4 : a0 = 47
      · rw [if_pos c4] at H
        have c4b0 : (a0 == 47) = true := beq_iff_eq.mpr c4
        have c4b1 : (a0 != 47) = false := bne_eq_false_iff_eq.mpr c4
        clear c4
        obtain rfl := Option.some.inj H
        go_enter Tryz.func40, Tryz.ntmps40
        go_wp2
        go_ret
        exact ⟨by first | rfl | (simp; done) | (simp [*]; done), by repeat (first | exact Drawn0.refl _ | apply Drawn0.step)⟩
      · rw [if_neg c4] at H
        have c4b0 : (a0 == 47) = false := beq_eq_false_iff_ne.mpr c4
        have c4b1 : (a0 != 47) = true := bne_iff_ne.mpr c4
        by_cases c5 : a0 = 45
        · rw [if_pos c5] at H
          have c5b0 : (a0 == 45) = true := beq_iff_eq.mpr c5
          have c5b1 : (a0 != 45) = false := bne_eq_false_iff_eq.mpr c5
          clear c5
          obtain rfl := Option.some.inj H
          go_enter Tryz.func40, Tryz.ntmps40
          go_wp2
          go_ret
          exact ⟨by first | rfl | (simp; done) | (simp [*]; done), by repeat (first | exact Drawn0.refl _ | apply Drawn0.step)⟩
        · rw [if_neg c5] at H
          have c5b0 : (a0 == 45) = false := beq_eq_false_iff_ne.mpr c5
          have c5b1 : (a0 != 45) = true := bne_iff_ne.mpr c5
          obtain rfl := Option.some.inj H
          go_enter Tryz.func40, Tryz.ntmps40
          go_wp2
          go_ret
          exact ⟨by first | rfl | (simp; done) | (simp [*]; done), by repeat (first | exact Drawn0.refl _ | apply Drawn0.step)⟩

end Go.Proofs.YtlcablcpcbmgeaaGreatDoor.P
