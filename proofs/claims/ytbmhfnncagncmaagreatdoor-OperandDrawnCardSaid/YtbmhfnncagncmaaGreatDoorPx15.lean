import Derived.Test.YtbmhfnncagncmaaGreatDoorPx1
import Derived.Test.YtbmhfnncagncmaaGreatDoorPx7
import Derived.Test.YtbmhfnncagncmaaGreatDoorPx14
namespace Go.Proofs.YtbmhfnncagncmaaGreatDoor.P
open Go.RowKit Go.Proofs.YtbmhfnncagncmaaGreatDoorW.PrintWords Go.Proofs.YtbmhfnncagncmaaGreatDoorW.PrintLast Go.Proofs.YtbmhfnncagncmaaGreatDoorW.PrintMore
attribute [local go_sem] max2_int min2_int max_two min_two max_three min_three max_four min_four
set_option linter.unusedVariables false
set_option linter.unusedSimpArgs false
attribute [local go_sem high] eqA26
def operand_may.f (k : Nat) (a0_0 a0_1 a0_2 a0_3 a0_4 a0_5 a0_6 a0_7 : Bool) (a0_8 : Int) (a0_9 a0_10 : ByteArray) (a0_11 a0_12 a0_13 a0_14 a0_15 : Int) (a0_16 a0_17 a0_18 a0_19 a0_20 a0_21 a0_22 a0_23 a0_24 a0_25 : Bool) : Option (Bool) := (off_Mul.f k (([a0_13, a0_11] : List Int))).bind fun bt184 => ((off_Mul.f k (([a0_14, a0_12] : List Int))).bind fun bt189 => (if bt184.2 = true then (if bt189.2 = true then (if bt189.1 ≤ 1099511627776 then ((conv_May.f k a0_0 a0_1 a0_2 a0_3 a0_4 a0_5 a0_6 a0_7 a0_8).bind fun t191 => (if t191 = true then (if a0_24 = true then (if a0_25 = true then (some false) else (some (a0_9.toList != a0_10.toList))) else (some (a0_9.toList != a0_10.toList))) else (some false))) else (some false)) else (some false)) else (some false)))
theorem operand_may.mono : ∀ a0 a1 a2 a3 a4 a5 a6 a7 a8 a9 a10 a11 a12 a13 a14 a15 a16 a17 a18 a19 a20 a21 a22 a23 a24 a25 k, LeO (operand_may.f k a0 a1 a2 a3 a4 a5 a6 a7 a8 a9 a10 a11 a12 a13 a14 a15 a16 a17 a18 a19 a20 a21 a22 a23 a24 a25) (operand_may.f (k + 1) a0 a1 a2 a3 a4 a5 a6 a7 a8 a9 a10 a11 a12 a13 a14 a15 a16 a17 a18 a19 a20 a21 a22 a23 a24 a25) := by
 intro a0 a1 a2 a3 a4 a5 a6 a7 a8 a9 a10 a11 a12 a13 a14 a15 a16 a17 a18 a19 a20 a21 a22 a23 a24 a25 k
 unfold operand_may.f
 repeat' first
   | (with_reducible exact conv_May.mono _ _ _ _ _ _ _ _ _ _)
   | (with_reducible exact off_Mul.mono _ _)
   | (with_reducible exact LeO.refl _)
   | (with_reducible exact LeO.none _)
   | (with_reducible refine LeO.ite ?_ ?_)
   | (with_reducible refine LeO.bind ?_ (fun _ => ?_))
   | refine LeO.bind ?_ (fun _ => ?_)
set_option maxHeartbeats 8000000 in
set_option maxRecDepth 100000 in
theorem operand_may.calls (k : Nat) (a0_0 a0_1 a0_2 a0_3 a0_4 a0_5 a0_6 a0_7 : Bool) (a0_8 : Int) (a0_9 a0_10 : ByteArray) (a0_11 a0_12 a0_13 a0_14 a0_15 : Int) (a0_16 a0_17 a0_18 a0_19 a0_20 a0_21 a0_22 a0_23 a0_24 a0_25 r : Bool) (w : World) (h : operand_may.f k a0_0 a0_1 a0_2 a0_3 a0_4 a0_5 a0_6 a0_7 a0_8 a0_9 a0_10 a0_11 a0_12 a0_13 a0_14 a0_15 a0_16 a0_17 a0_18 a0_19 a0_20 a0_21 a0_22 a0_23 a0_24 a0_25 = some r) :
  Calls Tryz.prog 15 #[.agg #[.bool a0_0, .bool a0_1, .bool a0_2, .bool a0_3, .bool a0_4, .bool a0_5, .bool a0_6, .bool a0_7, .int .i64 a0_8, .string a0_9, .string a0_10, .int .i64 a0_11, .int .i64 a0_12, .int .i64 a0_13, .int .i64 a0_14, .int .i64 a0_15, .bool a0_16, .bool a0_17, .bool a0_18, .bool a0_19, .bool a0_20, .bool a0_21, .bool a0_22, .bool a0_23, .bool a0_24, .bool a0_25]] w fun e w' => e = .returned (.bool r) ∧ Below w.heap.size w w' := by
 have hu28 := Tryz.underlying28
 have hu26 := Tryz.underlying26
 have HB := Aside0.mk (Below.refl w.heap.size w)
 have H : ((off_Mul.f k (([a0_13, a0_11] : List Int))).bind fun bt184 => ((off_Mul.f k (([a0_14, a0_12] : List Int))).bind fun bt189 => (if bt184.2 = true then (if bt189.2 = true then (if bt189.1 ≤ 1099511627776 then ((conv_May.f k a0_0 a0_1 a0_2 a0_3 a0_4 a0_5 a0_6 a0_7 a0_8).bind fun t191 => (if t191 = true then (if a0_24 = true then (if a0_25 = true then (some false) else (some (a0_9.toList != a0_10.toList))) else (some (a0_9.toList != a0_10.toList))) else (some false))) else (some false)) else (some false)) else (some false)))) = some r := h
 clear h
 obtain ⟨y181, hy181⟩ : ∃ y_ : List Int, y_ = (([a0_13, a0_11] : List Int)) := ⟨_, rfl⟩
 replace H : ((off_Mul.f k y181).bind fun bt184 => ((off_Mul.f k (([a0_14, a0_12] : List Int))).bind fun bt189 => (if bt184.2 = true then (if bt189.2 = true then (if bt189.1 ≤ 1099511627776 then ((conv_May.f k a0_0 a0_1 a0_2 a0_3 a0_4 a0_5 a0_6 a0_7 a0_8).bind fun t191 => (if t191 = true then (if a0_24 = true then (if a0_25 = true then (some false) else (some (a0_9.toList != a0_10.toList))) else (some (a0_9.toList != a0_10.toList))) else (some false))) else (some false)) else (some false)) else (some false)))) = some r := by first | (rw [hy181]; with_reducible exact H) | (have H2_ := (Option.bind_some _ _).symm.trans H; rw [hy181]; with_reducible exact H2_) | (have H2_ := (Option.bind_some _ _).symm.trans H; with_reducible exact H2_) | with_reducible exact H | (rw [hy181]; exact H) | exact H
 have Ny181 := Aside0.mk hy181
 clear hy181
 replace H := Option.bind_eq_some_iff.mp H
 obtain ⟨⟨t184, t185⟩, A20, H⟩ := H
 replace H : ((off_Mul.f k (([a0_14, a0_12] : List Int))).bind fun bt189 => (if t185 = true then (if bt189.2 = true then (if bt189.1 ≤ 1099511627776 then ((conv_May.f k a0_0 a0_1 a0_2 a0_3 a0_4 a0_5 a0_6 a0_7 a0_8).bind fun t191 => (if t191 = true then (if a0_24 = true then (if a0_25 = true then (some false) else (some (a0_9.toList != a0_10.toList))) else (some (a0_9.toList != a0_10.toList))) else (some false))) else (some false)) else (some false)) else (some false))) = some r := H
 have A2 := Aside0.mk A20
 clear A20
 obtain ⟨y186, hy186⟩ : ∃ y_ : List Int, y_ = (([a0_14, a0_12] : List Int)) := ⟨_, rfl⟩
 replace H : ((off_Mul.f k y186).bind fun bt189 => (if t185 = true then (if bt189.2 = true then (if bt189.1 ≤ 1099511627776 then ((conv_May.f k a0_0 a0_1 a0_2 a0_3 a0_4 a0_5 a0_6 a0_7 a0_8).bind fun t191 => (if t191 = true then (if a0_24 = true then (if a0_25 = true then (some false) else (some (a0_9.toList != a0_10.toList))) else (some (a0_9.toList != a0_10.toList))) else (some false))) else (some false)) else (some false)) else (some false))) = some r := by first | (rw [hy186]; with_reducible exact H) | (have H2_ := (Option.bind_some _ _).symm.trans H; rw [hy186]; with_reducible exact H2_) | (have H2_ := (Option.bind_some _ _).symm.trans H; with_reducible exact H2_) | with_reducible exact H | (rw [hy186]; exact H) | exact H
 have Ny186 := Aside0.mk hy186
 clear hy186
 replace H := Option.bind_eq_some_iff.mp H
 obtain ⟨⟨t189, t190⟩, A30, H⟩ := H
 replace H : (if t185 = true then (if t190 = true then (if t189 ≤ 1099511627776 then ((conv_May.f k a0_0 a0_1 a0_2 a0_3 a0_4 a0_5 a0_6 a0_7 a0_8).bind fun t191 => (if t191 = true then (if a0_24 = true then (if a0_25 = true then (some false) else (some (a0_9.toList != a0_10.toList))) else (some (a0_9.toList != a0_10.toList))) else (some false))) else (some false)) else (some false)) else (some false)) = some r := H
 have A3 := Aside0.mk A30
 clear A30
 by_cases c4 : t185 = true
 ·subst c4
  have H1 := H; rw [if_pos rfl] at H1
  clear H
  have H := H1
  clear H1
  by_cases c5 : t190 = true
  ·subst c5
   have H1 := H; rw [if_pos rfl] at H1
   clear H
   have H := H1
   clear H1
   by_cases c6 : t189 ≤ 1099511627776
   ·rw [if_pos c6] at H
    have c6b0 : decide (t189 ≤ 1099511627776) = true := decide_eq_true c6
    clear c6
    replace H := Option.bind_eq_some_iff.mp H
    obtain ⟨t191, A70, H⟩ := H
    replace H : (if t191 = true then (if a0_24 = true then (if a0_25 = true then (some false) else (some (a0_9.toList != a0_10.toList))) else (some (a0_9.toList != a0_10.toList))) else (some false)) = some r := H
    have A7 := Aside0.mk A70
    clear A70
    by_cases c8 : t191 = true
    ·subst c8
     have H1 := H; rw [if_pos rfl] at H1
     clear H
     have H := H1
     clear H1
     by_cases c9 : a0_24 = true
     ·subst c9
      have H1 := H; rw [if_pos rfl] at H1
      clear H
      have H := H1
      clear H1
      by_cases c10 : a0_25 = true
      ·subst c10
       have H1 := H; rw [if_pos rfl] at H1
       clear H
       have H := H1
       clear H1
       obtain rfl := Option.some.inj H
       go_enter Tryz.func15, Tryz.ntmps15
       go_wp2_with (first | ((with_reducible refine gate_dst (N := 1) rfl ?_); refine box_e 1 #[.bool a0_0, .bool a0_1, .bool a0_2, .bool a0_3, .bool a0_4, .bool a0_5, .bool a0_6, .bool a0_7, .int .i64 a0_8, .string a0_9, .string a0_10, .int .i64 a0_11, .int .i64 a0_12, .int .i64 a0_13, .int .i64 a0_14, .int .i64 a0_15, .bool a0_16, .bool a0_17, .bool a0_18, .bool a0_19, .bool a0_20, .bool a0_21, .bool a0_22, .bool a0_23, .bool true, .bool true] 28 ?_; intro gb180 hg w11 hbox hb; have BK180 := Aside0.mk hbox; have GW180 := bg_ HB hg; have GE180 := bg_ HB hg; replace HB := bs_ HB hb; clear hb hbox hg; have hcz12_11 : w11.cell? ⟨gb180, 11, none⟩ = some (.int .i64 a0_11) := (blk_cell BK180.out 11).trans rfl; have hcz12_13 : w11.cell? ⟨gb180, 13, none⟩ = some (.int .i64 a0_13) := (blk_cell BK180.out 13).trans rfl) | ((with_reducible refine gate_dst (N := 12) rfl ?_); refine Kd.R_lit (Kd.int .i64) _ 3 ?hg (N := 12) ?hd (xs := ([a0_13, a0_11] : List Int)) (inner := [.int .i64 a0_13, .int .i64 a0_11]) (ok := fun _ => True) (okp := fun _ => True) ?hr ?hp (fun _ hk => hk) trivial (Below.refl _ _) (Nat.le_refl _) (by simp) ?_; (case hd => rfl); (case hg => rfl); (case hr => first | (go_simp; done) | (go_simp; rfl)); (case hp => exact (Reps.one (show Kd.M (Kd.int .i64) _ _ _ a0_13 [.int .i64 a0_13] from rfl) (Reps.one (show Kd.M (Kd.int .i64) _ _ _ a0_11 [.int .i64 a0_11] from rfl) (Reps.none _ _)))); intro v182 w13 ho14 hb hg_ hnew_; clear hg_ hnew_; (first | rw [← Ny181.out] at ho14 | (simp only [Int.reduceToNat] at ho14; rw [← Ny181.out] at ho14)); have HO183 := Aside0.mk (Kd.R_lower ho14 (below_size (bh_ HB))); replace BK180 := bb_ BK180 hb; replace HB := bs_ HB hb; clear hb ho14; obtain ⟨Ao15, co15, eo15⟩ := Kd.R_slice HO183.out; subst eo15) | ((with_reducible refine gate_callee (f := 42) rfl ?_); refine gl_ (some 13) rfl rfl Tryz.func42 (by kernel_rfl) rfl #[.slice Ao15 y181.length co15] rfl ?_; (with_reducible refine (off_Mul.calls k _ _ y181 t184 true _ ?side1 ?side2 A2.out).mono ?_); (case side1 => repeat (first | exact (Kd.R_reads' HO183.out).2.2 | (with_reducible refine Kd.C_alloc ?_ _) | (with_reducible refine Kd.C_drewN ?_ _) | (with_reducible refine Kd.C_drew ?_))); (case side2 => exact (Kd.R_reads' HO183.out).2.1); rintro e w' ⟨rfl, ⟨nd, rfl⟩⟩; refine ⟨_, rfl, ?_⟩; have hcz16_12 : w13.cell? ⟨gb180, 12, none⟩ = some (.int .i64 a0_12) := (blk_cell BK180.out 12).trans rfl; have hcz16_14 : w13.cell? ⟨gb180, 14, none⟩ = some (.int .i64 a0_14) := (blk_cell BK180.out 14).trans rfl) | ((with_reducible refine gate_dst (N := 21) rfl ?_); refine Kd.R_lit (Kd.int .i64) _ 3 ?hg (N := 21) ?hd (xs := ([a0_14, a0_12] : List Int)) (inner := [.int .i64 a0_14, .int .i64 a0_12]) (ok := fun _ => True) (okp := fun _ => True) ?hr ?hp (fun _ hk => hk) trivial (Below.refl _ _) (Nat.le_refl _) (by simp) ?_; (case hd => rfl); (case hg => rfl); (case hr => first | (go_simp; done) | (go_simp; rfl)); (case hp => exact (Reps.one (show Kd.M (Kd.int .i64) _ _ _ a0_14 [.int .i64 a0_14] from rfl) (Reps.one (show Kd.M (Kd.int .i64) _ _ _ a0_12 [.int .i64 a0_12] from rfl) (Reps.none _ _)))); intro v187 w17 ho18 hb hg_ hnew_; clear hg_ hnew_; (first | rw [← Ny186.out] at ho18 | (simp only [Int.reduceToNat] at ho18; rw [← Ny186.out] at ho18)); have n0_ := Aside0.mk (Kd.R_elder' (by (with_reducible repeat (first | apply Kd.R_alloc | apply Kd.R_drewN | apply Kd.R_drew)); exact HO183.out) (Kd.R_base ho18) hb); have n1_ := Aside0.mk (Kd.R_lower (Kd.R_new' ho18 (Kd.R_lt (by (with_reducible repeat (first | apply Kd.R_alloc | apply Kd.R_drewN | apply Kd.R_drew)); exact HO183.out))) (below_size (bh_ HB))); have n2_ := bb_ BK180 hb; have n3_ := bs_ HB hb; clear HO183; clear BK180; clear HB; have HO183 := n0_; have HO188 := n1_; have BK180 := n2_; have HB := n3_; clear n0_ n1_ n2_ n3_; clear hb ho18; obtain ⟨Ao19, co19, eo19⟩ := Kd.R_slice HO188.out; subst eo19) | ((with_reducible refine gate_callee (f := 42) rfl ?_); refine gl_ (some 22) rfl rfl Tryz.func42 (by kernel_rfl) rfl #[.slice Ao19 y186.length co19] rfl ?_; (with_reducible refine (off_Mul.calls k _ _ y186 t189 true _ ?side1 ?side2 A3.out).mono ?_); (case side1 => repeat (first | exact (Kd.R_reads' HO188.out).2.2 | (with_reducible refine Kd.C_alloc ?_ _) | (with_reducible refine Kd.C_drewN ?_ _) | (with_reducible refine Kd.C_drew ?_))); (case side2 => exact (Kd.R_reads' HO188.out).2.1); rintro e w' ⟨rfl, ⟨nd, rfl⟩⟩; refine ⟨_, rfl, ?_⟩; have hcz20_0 : w17.cell? ⟨gb180, 0, none⟩ = some (.bool a0_0) := (blk_cell BK180.out 0).trans rfl; have hcz20_1 : w17.cell? ⟨gb180, 1, none⟩ = some (.bool a0_1) := (blk_cell BK180.out 1).trans rfl; have hcz20_2 : w17.cell? ⟨gb180, 2, none⟩ = some (.bool a0_2) := (blk_cell BK180.out 2).trans rfl; have hcz20_3 : w17.cell? ⟨gb180, 3, none⟩ = some (.bool a0_3) := (blk_cell BK180.out 3).trans rfl; have hcz20_4 : w17.cell? ⟨gb180, 4, none⟩ = some (.bool a0_4) := (blk_cell BK180.out 4).trans rfl; have hcz20_5 : w17.cell? ⟨gb180, 5, none⟩ = some (.bool a0_5) := (blk_cell BK180.out 5).trans rfl; have hcz20_6 : w17.cell? ⟨gb180, 6, none⟩ = some (.bool a0_6) := (blk_cell BK180.out 6).trans rfl; have hcz20_7 : w17.cell? ⟨gb180, 7, none⟩ = some (.bool a0_7) := (blk_cell BK180.out 7).trans rfl; have hcz20_8 : w17.cell? ⟨gb180, 8, none⟩ = some (.int .i64 a0_8) := (blk_cell BK180.out 8).trans rfl) | (go_at_call 43; (with_reducible refine (conv_May.calls k a0_0 a0_1 a0_2 a0_3 a0_4 a0_5 a0_6 a0_7 a0_8 true _ A7.out).mono ?_); rintro e w21 ⟨rfl, hb⟩; have n0_ := Aside0.mk (Kd.R_below (by (with_reducible repeat (first | apply Kd.R_alloc | apply Kd.R_drewN | apply Kd.R_drew)); exact HO183.out) hb); have n1_ := Aside0.mk (Kd.R_below (by (with_reducible repeat (first | apply Kd.R_alloc | apply Kd.R_drewN | apply Kd.R_drew)); exact HO188.out) hb); have n2_ := bb_ BK180 hb; have n3_ := bs_ HB hb; clear HO183; clear HO188; clear BK180; clear HB; have HO183 := n0_; have HO188 := n1_; have BK180 := n2_; have HB := n3_; clear n0_ n1_ n2_ n3_; (try clear hb); have hcz22_9 : w21.cell? ⟨gb180, 9, none⟩ = some (.string a0_9) := (blk_cell BK180.out 9).trans rfl; have hcz22_10 : w21.cell? ⟨gb180, 10, none⟩ = some (.string a0_10) := (blk_cell BK180.out 10).trans rfl; have hcz22_24 : w21.cell? ⟨gb180, 24, none⟩ = some (.bool true) := (blk_cell BK180.out 24).trans rfl; have hcz22_25 : w21.cell? ⟨gb180, 25, none⟩ = some (.bool true) := (blk_cell BK180.out 25).trans rfl))
       go_ret
       exact ⟨by first | rfl | (simp [errW_none, errW_some] <;> rfl) | (simp [*, errW_none, errW_some] <;> rfl), bh_ HB⟩
      ·replace c10 := Bool.eq_false_iff.mpr c10
       subst c10
       have H1 : (some (a0_9.toList != a0_10.toList)) = some r := by rw [if_neg (show ¬ (false = true) by decide)] at H; exact H
       clear H
       have H := H1
       clear H1
       obtain rfl := Option.some.inj H
       go_enter Tryz.func15, Tryz.ntmps15
       go_wp2_with (first | ((with_reducible refine gate_dst (N := 1) rfl ?_); refine box_e 1 #[.bool a0_0, .bool a0_1, .bool a0_2, .bool a0_3, .bool a0_4, .bool a0_5, .bool a0_6, .bool a0_7, .int .i64 a0_8, .string a0_9, .string a0_10, .int .i64 a0_11, .int .i64 a0_12, .int .i64 a0_13, .int .i64 a0_14, .int .i64 a0_15, .bool a0_16, .bool a0_17, .bool a0_18, .bool a0_19, .bool a0_20, .bool a0_21, .bool a0_22, .bool a0_23, .bool true, .bool false] 28 ?_; intro gb180 hg w23 hbox hb; have BK180 := Aside0.mk hbox; have GW180 := bg_ HB hg; have GE180 := bg_ HB hg; replace HB := bs_ HB hb; clear hb hbox hg; have hcz24_11 : w23.cell? ⟨gb180, 11, none⟩ = some (.int .i64 a0_11) := (blk_cell BK180.out 11).trans rfl; have hcz24_13 : w23.cell? ⟨gb180, 13, none⟩ = some (.int .i64 a0_13) := (blk_cell BK180.out 13).trans rfl) | ((with_reducible refine gate_dst (N := 12) rfl ?_); refine Kd.R_lit (Kd.int .i64) _ 3 ?hg (N := 12) ?hd (xs := ([a0_13, a0_11] : List Int)) (inner := [.int .i64 a0_13, .int .i64 a0_11]) (ok := fun _ => True) (okp := fun _ => True) ?hr ?hp (fun _ hk => hk) trivial (Below.refl _ _) (Nat.le_refl _) (by simp) ?_; (case hd => rfl); (case hg => rfl); (case hr => first | (go_simp; done) | (go_simp; rfl)); (case hp => exact (Reps.one (show Kd.M (Kd.int .i64) _ _ _ a0_13 [.int .i64 a0_13] from rfl) (Reps.one (show Kd.M (Kd.int .i64) _ _ _ a0_11 [.int .i64 a0_11] from rfl) (Reps.none _ _)))); intro v182 w25 ho26 hb hg_ hnew_; clear hg_ hnew_; (first | rw [← Ny181.out] at ho26 | (simp only [Int.reduceToNat] at ho26; rw [← Ny181.out] at ho26)); have HO183 := Aside0.mk (Kd.R_lower ho26 (below_size (bh_ HB))); replace BK180 := bb_ BK180 hb; replace HB := bs_ HB hb; clear hb ho26; obtain ⟨Ao27, co27, eo27⟩ := Kd.R_slice HO183.out; subst eo27) | ((with_reducible refine gate_callee (f := 42) rfl ?_); refine gl_ (some 13) rfl rfl Tryz.func42 (by kernel_rfl) rfl #[.slice Ao27 y181.length co27] rfl ?_; (with_reducible refine (off_Mul.calls k _ _ y181 t184 true _ ?side1 ?side2 A2.out).mono ?_); (case side1 => repeat (first | exact (Kd.R_reads' HO183.out).2.2 | (with_reducible refine Kd.C_alloc ?_ _) | (with_reducible refine Kd.C_drewN ?_ _) | (with_reducible refine Kd.C_drew ?_))); (case side2 => exact (Kd.R_reads' HO183.out).2.1); rintro e w' ⟨rfl, ⟨nd, rfl⟩⟩; refine ⟨_, rfl, ?_⟩; have hcz28_12 : w25.cell? ⟨gb180, 12, none⟩ = some (.int .i64 a0_12) := (blk_cell BK180.out 12).trans rfl; have hcz28_14 : w25.cell? ⟨gb180, 14, none⟩ = some (.int .i64 a0_14) := (blk_cell BK180.out 14).trans rfl) | ((with_reducible refine gate_dst (N := 21) rfl ?_); refine Kd.R_lit (Kd.int .i64) _ 3 ?hg (N := 21) ?hd (xs := ([a0_14, a0_12] : List Int)) (inner := [.int .i64 a0_14, .int .i64 a0_12]) (ok := fun _ => True) (okp := fun _ => True) ?hr ?hp (fun _ hk => hk) trivial (Below.refl _ _) (Nat.le_refl _) (by simp) ?_; (case hd => rfl); (case hg => rfl); (case hr => first | (go_simp; done) | (go_simp; rfl)); (case hp => exact (Reps.one (show Kd.M (Kd.int .i64) _ _ _ a0_14 [.int .i64 a0_14] from rfl) (Reps.one (show Kd.M (Kd.int .i64) _ _ _ a0_12 [.int .i64 a0_12] from rfl) (Reps.none _ _)))); intro v187 w29 ho30 hb hg_ hnew_; clear hg_ hnew_; (first | rw [← Ny186.out] at ho30 | (simp only [Int.reduceToNat] at ho30; rw [← Ny186.out] at ho30)); have n0_ := Aside0.mk (Kd.R_elder' (by (with_reducible repeat (first | apply Kd.R_alloc | apply Kd.R_drewN | apply Kd.R_drew)); exact HO183.out) (Kd.R_base ho30) hb); have n1_ := Aside0.mk (Kd.R_lower (Kd.R_new' ho30 (Kd.R_lt (by (with_reducible repeat (first | apply Kd.R_alloc | apply Kd.R_drewN | apply Kd.R_drew)); exact HO183.out))) (below_size (bh_ HB))); have n2_ := bb_ BK180 hb; have n3_ := bs_ HB hb; clear HO183; clear BK180; clear HB; have HO183 := n0_; have HO188 := n1_; have BK180 := n2_; have HB := n3_; clear n0_ n1_ n2_ n3_; clear hb ho30; obtain ⟨Ao31, co31, eo31⟩ := Kd.R_slice HO188.out; subst eo31) | ((with_reducible refine gate_callee (f := 42) rfl ?_); refine gl_ (some 22) rfl rfl Tryz.func42 (by kernel_rfl) rfl #[.slice Ao31 y186.length co31] rfl ?_; (with_reducible refine (off_Mul.calls k _ _ y186 t189 true _ ?side1 ?side2 A3.out).mono ?_); (case side1 => repeat (first | exact (Kd.R_reads' HO188.out).2.2 | (with_reducible refine Kd.C_alloc ?_ _) | (with_reducible refine Kd.C_drewN ?_ _) | (with_reducible refine Kd.C_drew ?_))); (case side2 => exact (Kd.R_reads' HO188.out).2.1); rintro e w' ⟨rfl, ⟨nd, rfl⟩⟩; refine ⟨_, rfl, ?_⟩; have hcz32_0 : w29.cell? ⟨gb180, 0, none⟩ = some (.bool a0_0) := (blk_cell BK180.out 0).trans rfl; have hcz32_1 : w29.cell? ⟨gb180, 1, none⟩ = some (.bool a0_1) := (blk_cell BK180.out 1).trans rfl; have hcz32_2 : w29.cell? ⟨gb180, 2, none⟩ = some (.bool a0_2) := (blk_cell BK180.out 2).trans rfl; have hcz32_3 : w29.cell? ⟨gb180, 3, none⟩ = some (.bool a0_3) := (blk_cell BK180.out 3).trans rfl; have hcz32_4 : w29.cell? ⟨gb180, 4, none⟩ = some (.bool a0_4) := (blk_cell BK180.out 4).trans rfl; have hcz32_5 : w29.cell? ⟨gb180, 5, none⟩ = some (.bool a0_5) := (blk_cell BK180.out 5).trans rfl; have hcz32_6 : w29.cell? ⟨gb180, 6, none⟩ = some (.bool a0_6) := (blk_cell BK180.out 6).trans rfl; have hcz32_7 : w29.cell? ⟨gb180, 7, none⟩ = some (.bool a0_7) := (blk_cell BK180.out 7).trans rfl; have hcz32_8 : w29.cell? ⟨gb180, 8, none⟩ = some (.int .i64 a0_8) := (blk_cell BK180.out 8).trans rfl) | (go_at_call 43; (with_reducible refine (conv_May.calls k a0_0 a0_1 a0_2 a0_3 a0_4 a0_5 a0_6 a0_7 a0_8 true _ A7.out).mono ?_); rintro e w33 ⟨rfl, hb⟩; have n0_ := Aside0.mk (Kd.R_below (by (with_reducible repeat (first | apply Kd.R_alloc | apply Kd.R_drewN | apply Kd.R_drew)); exact HO183.out) hb); have n1_ := Aside0.mk (Kd.R_below (by (with_reducible repeat (first | apply Kd.R_alloc | apply Kd.R_drewN | apply Kd.R_drew)); exact HO188.out) hb); have n2_ := bb_ BK180 hb; have n3_ := bs_ HB hb; clear HO183; clear HO188; clear BK180; clear HB; have HO183 := n0_; have HO188 := n1_; have BK180 := n2_; have HB := n3_; clear n0_ n1_ n2_ n3_; (try clear hb); have hcz34_9 : w33.cell? ⟨gb180, 9, none⟩ = some (.string a0_9) := (blk_cell BK180.out 9).trans rfl; have hcz34_10 : w33.cell? ⟨gb180, 10, none⟩ = some (.string a0_10) := (blk_cell BK180.out 10).trans rfl; have hcz34_24 : w33.cell? ⟨gb180, 24, none⟩ = some (.bool true) := (blk_cell BK180.out 24).trans rfl; have hcz34_25 : w33.cell? ⟨gb180, 25, none⟩ = some (.bool false) := (blk_cell BK180.out 25).trans rfl))
       go_ret
       exact ⟨by first | rfl | (simp [errW_none, errW_some] <;> rfl) | (simp [*, errW_none, errW_some] <;> rfl), bh_ HB⟩
     ·replace c9 := Bool.eq_false_iff.mpr c9
      subst c9
      have H1 : (some (a0_9.toList != a0_10.toList)) = some r := by rw [if_neg (show ¬ (false = true) by decide)] at H; exact H
      clear H
      have H := H1
      clear H1
      obtain rfl := Option.some.inj H
      go_enter Tryz.func15, Tryz.ntmps15
      go_wp2_with (first | ((with_reducible refine gate_dst (N := 1) rfl ?_); refine box_e 1 #[.bool a0_0, .bool a0_1, .bool a0_2, .bool a0_3, .bool a0_4, .bool a0_5, .bool a0_6, .bool a0_7, .int .i64 a0_8, .string a0_9, .string a0_10, .int .i64 a0_11, .int .i64 a0_12, .int .i64 a0_13, .int .i64 a0_14, .int .i64 a0_15, .bool a0_16, .bool a0_17, .bool a0_18, .bool a0_19, .bool a0_20, .bool a0_21, .bool a0_22, .bool a0_23, .bool false, .bool a0_25] 28 ?_; intro gb180 hg w35 hbox hb; have BK180 := Aside0.mk hbox; have GW180 := bg_ HB hg; have GE180 := bg_ HB hg; replace HB := bs_ HB hb; clear hb hbox hg; have hcz36_11 : w35.cell? ⟨gb180, 11, none⟩ = some (.int .i64 a0_11) := (blk_cell BK180.out 11).trans rfl; have hcz36_13 : w35.cell? ⟨gb180, 13, none⟩ = some (.int .i64 a0_13) := (blk_cell BK180.out 13).trans rfl) | ((with_reducible refine gate_dst (N := 12) rfl ?_); refine Kd.R_lit (Kd.int .i64) _ 3 ?hg (N := 12) ?hd (xs := ([a0_13, a0_11] : List Int)) (inner := [.int .i64 a0_13, .int .i64 a0_11]) (ok := fun _ => True) (okp := fun _ => True) ?hr ?hp (fun _ hk => hk) trivial (Below.refl _ _) (Nat.le_refl _) (by simp) ?_; (case hd => rfl); (case hg => rfl); (case hr => first | (go_simp; done) | (go_simp; rfl)); (case hp => exact (Reps.one (show Kd.M (Kd.int .i64) _ _ _ a0_13 [.int .i64 a0_13] from rfl) (Reps.one (show Kd.M (Kd.int .i64) _ _ _ a0_11 [.int .i64 a0_11] from rfl) (Reps.none _ _)))); intro v182 w37 ho38 hb hg_ hnew_; clear hg_ hnew_; (first | rw [← Ny181.out] at ho38 | (simp only [Int.reduceToNat] at ho38; rw [← Ny181.out] at ho38)); have HO183 := Aside0.mk (Kd.R_lower ho38 (below_size (bh_ HB))); replace BK180 := bb_ BK180 hb; replace HB := bs_ HB hb; clear hb ho38; obtain ⟨Ao39, co39, eo39⟩ := Kd.R_slice HO183.out; subst eo39) | ((with_reducible refine gate_callee (f := 42) rfl ?_); refine gl_ (some 13) rfl rfl Tryz.func42 (by kernel_rfl) rfl #[.slice Ao39 y181.length co39] rfl ?_; (with_reducible refine (off_Mul.calls k _ _ y181 t184 true _ ?side1 ?side2 A2.out).mono ?_); (case side1 => repeat (first | exact (Kd.R_reads' HO183.out).2.2 | (with_reducible refine Kd.C_alloc ?_ _) | (with_reducible refine Kd.C_drewN ?_ _) | (with_reducible refine Kd.C_drew ?_))); (case side2 => exact (Kd.R_reads' HO183.out).2.1); rintro e w' ⟨rfl, ⟨nd, rfl⟩⟩; refine ⟨_, rfl, ?_⟩; have hcz40_12 : w37.cell? ⟨gb180, 12, none⟩ = some (.int .i64 a0_12) := (blk_cell BK180.out 12).trans rfl; have hcz40_14 : w37.cell? ⟨gb180, 14, none⟩ = some (.int .i64 a0_14) := (blk_cell BK180.out 14).trans rfl) | ((with_reducible refine gate_dst (N := 21) rfl ?_); refine Kd.R_lit (Kd.int .i64) _ 3 ?hg (N := 21) ?hd (xs := ([a0_14, a0_12] : List Int)) (inner := [.int .i64 a0_14, .int .i64 a0_12]) (ok := fun _ => True) (okp := fun _ => True) ?hr ?hp (fun _ hk => hk) trivial (Below.refl _ _) (Nat.le_refl _) (by simp) ?_; (case hd => rfl); (case hg => rfl); (case hr => first | (go_simp; done) | (go_simp; rfl)); (case hp => exact (Reps.one (show Kd.M (Kd.int .i64) _ _ _ a0_14 [.int .i64 a0_14] from rfl) (Reps.one (show Kd.M (Kd.int .i64) _ _ _ a0_12 [.int .i64 a0_12] from rfl) (Reps.none _ _)))); intro v187 w41 ho42 hb hg_ hnew_; clear hg_ hnew_; (first | rw [← Ny186.out] at ho42 | (simp only [Int.reduceToNat] at ho42; rw [← Ny186.out] at ho42)); have n0_ := Aside0.mk (Kd.R_elder' (by (with_reducible repeat (first | apply Kd.R_alloc | apply Kd.R_drewN | apply Kd.R_drew)); exact HO183.out) (Kd.R_base ho42) hb); have n1_ := Aside0.mk (Kd.R_lower (Kd.R_new' ho42 (Kd.R_lt (by (with_reducible repeat (first | apply Kd.R_alloc | apply Kd.R_drewN | apply Kd.R_drew)); exact HO183.out))) (below_size (bh_ HB))); have n2_ := bb_ BK180 hb; have n3_ := bs_ HB hb; clear HO183; clear BK180; clear HB; have HO183 := n0_; have HO188 := n1_; have BK180 := n2_; have HB := n3_; clear n0_ n1_ n2_ n3_; clear hb ho42; obtain ⟨Ao43, co43, eo43⟩ := Kd.R_slice HO188.out; subst eo43) | ((with_reducible refine gate_callee (f := 42) rfl ?_); refine gl_ (some 22) rfl rfl Tryz.func42 (by kernel_rfl) rfl #[.slice Ao43 y186.length co43] rfl ?_; (with_reducible refine (off_Mul.calls k _ _ y186 t189 true _ ?side1 ?side2 A3.out).mono ?_); (case side1 => repeat (first | exact (Kd.R_reads' HO188.out).2.2 | (with_reducible refine Kd.C_alloc ?_ _) | (with_reducible refine Kd.C_drewN ?_ _) | (with_reducible refine Kd.C_drew ?_))); (case side2 => exact (Kd.R_reads' HO188.out).2.1); rintro e w' ⟨rfl, ⟨nd, rfl⟩⟩; refine ⟨_, rfl, ?_⟩; have hcz44_0 : w41.cell? ⟨gb180, 0, none⟩ = some (.bool a0_0) := (blk_cell BK180.out 0).trans rfl; have hcz44_1 : w41.cell? ⟨gb180, 1, none⟩ = some (.bool a0_1) := (blk_cell BK180.out 1).trans rfl; have hcz44_2 : w41.cell? ⟨gb180, 2, none⟩ = some (.bool a0_2) := (blk_cell BK180.out 2).trans rfl; have hcz44_3 : w41.cell? ⟨gb180, 3, none⟩ = some (.bool a0_3) := (blk_cell BK180.out 3).trans rfl; have hcz44_4 : w41.cell? ⟨gb180, 4, none⟩ = some (.bool a0_4) := (blk_cell BK180.out 4).trans rfl; have hcz44_5 : w41.cell? ⟨gb180, 5, none⟩ = some (.bool a0_5) := (blk_cell BK180.out 5).trans rfl; have hcz44_6 : w41.cell? ⟨gb180, 6, none⟩ = some (.bool a0_6) := (blk_cell BK180.out 6).trans rfl; have hcz44_7 : w41.cell? ⟨gb180, 7, none⟩ = some (.bool a0_7) := (blk_cell BK180.out 7).trans rfl; have hcz44_8 : w41.cell? ⟨gb180, 8, none⟩ = some (.int .i64 a0_8) := (blk_cell BK180.out 8).trans rfl) | (go_at_call 43; (with_reducible refine (conv_May.calls k a0_0 a0_1 a0_2 a0_3 a0_4 a0_5 a0_6 a0_7 a0_8 true _ A7.out).mono ?_); rintro e w45 ⟨rfl, hb⟩; have n0_ := Aside0.mk (Kd.R_below (by (with_reducible repeat (first | apply Kd.R_alloc | apply Kd.R_drewN | apply Kd.R_drew)); exact HO183.out) hb); have n1_ := Aside0.mk (Kd.R_below (by (with_reducible repeat (first | apply Kd.R_alloc | apply Kd.R_drewN | apply Kd.R_drew)); exact HO188.out) hb); have n2_ := bb_ BK180 hb; have n3_ := bs_ HB hb; clear HO183; clear HO188; clear BK180; clear HB; have HO183 := n0_; have HO188 := n1_; have BK180 := n2_; have HB := n3_; clear n0_ n1_ n2_ n3_; (try clear hb); have hcz46_9 : w45.cell? ⟨gb180, 9, none⟩ = some (.string a0_9) := (blk_cell BK180.out 9).trans rfl; have hcz46_10 : w45.cell? ⟨gb180, 10, none⟩ = some (.string a0_10) := (blk_cell BK180.out 10).trans rfl; have hcz46_24 : w45.cell? ⟨gb180, 24, none⟩ = some (.bool false) := (blk_cell BK180.out 24).trans rfl; have hcz46_25 : w45.cell? ⟨gb180, 25, none⟩ = some (.bool a0_25) := (blk_cell BK180.out 25).trans rfl))
      go_ret
      exact ⟨by first | rfl | (simp [errW_none, errW_some] <;> rfl) | (simp [*, errW_none, errW_some] <;> rfl), bh_ HB⟩
    ·replace c8 := Bool.eq_false_iff.mpr c8
     subst c8
     have H1 : (some false) = some r := by rw [if_neg (show ¬ (false = true) by decide)] at H; exact H
     clear H
     have H := H1
     clear H1
     obtain rfl := Option.some.inj H
     go_enter Tryz.func15, Tryz.ntmps15
     go_wp2_with (first | ((with_reducible refine gate_dst (N := 1) rfl ?_); refine box_e 1 #[.bool a0_0, .bool a0_1, .bool a0_2, .bool a0_3, .bool a0_4, .bool a0_5, .bool a0_6, .bool a0_7, .int .i64 a0_8, .string a0_9, .string a0_10, .int .i64 a0_11, .int .i64 a0_12, .int .i64 a0_13, .int .i64 a0_14, .int .i64 a0_15, .bool a0_16, .bool a0_17, .bool a0_18, .bool a0_19, .bool a0_20, .bool a0_21, .bool a0_22, .bool a0_23, .bool a0_24, .bool a0_25] 28 ?_; intro gb180 hg w47 hbox hb; have BK180 := Aside0.mk hbox; have GW180 := bg_ HB hg; have GE180 := bg_ HB hg; replace HB := bs_ HB hb; clear hb hbox hg; have hcz48_11 : w47.cell? ⟨gb180, 11, none⟩ = some (.int .i64 a0_11) := (blk_cell BK180.out 11).trans rfl; have hcz48_13 : w47.cell? ⟨gb180, 13, none⟩ = some (.int .i64 a0_13) := (blk_cell BK180.out 13).trans rfl) | ((with_reducible refine gate_dst (N := 12) rfl ?_); refine Kd.R_lit (Kd.int .i64) _ 3 ?hg (N := 12) ?hd (xs := ([a0_13, a0_11] : List Int)) (inner := [.int .i64 a0_13, .int .i64 a0_11]) (ok := fun _ => True) (okp := fun _ => True) ?hr ?hp (fun _ hk => hk) trivial (Below.refl _ _) (Nat.le_refl _) (by simp) ?_; (case hd => rfl); (case hg => rfl); (case hr => first | (go_simp; done) | (go_simp; rfl)); (case hp => exact (Reps.one (show Kd.M (Kd.int .i64) _ _ _ a0_13 [.int .i64 a0_13] from rfl) (Reps.one (show Kd.M (Kd.int .i64) _ _ _ a0_11 [.int .i64 a0_11] from rfl) (Reps.none _ _)))); intro v182 w49 ho50 hb hg_ hnew_; clear hg_ hnew_; (first | rw [← Ny181.out] at ho50 | (simp only [Int.reduceToNat] at ho50; rw [← Ny181.out] at ho50)); have HO183 := Aside0.mk (Kd.R_lower ho50 (below_size (bh_ HB))); replace BK180 := bb_ BK180 hb; replace HB := bs_ HB hb; clear hb ho50; obtain ⟨Ao51, co51, eo51⟩ := Kd.R_slice HO183.out; subst eo51) | ((with_reducible refine gate_callee (f := 42) rfl ?_); refine gl_ (some 13) rfl rfl Tryz.func42 (by kernel_rfl) rfl #[.slice Ao51 y181.length co51] rfl ?_; (with_reducible refine (off_Mul.calls k _ _ y181 t184 true _ ?side1 ?side2 A2.out).mono ?_); (case side1 => repeat (first | exact (Kd.R_reads' HO183.out).2.2 | (with_reducible refine Kd.C_alloc ?_ _) | (with_reducible refine Kd.C_drewN ?_ _) | (with_reducible refine Kd.C_drew ?_))); (case side2 => exact (Kd.R_reads' HO183.out).2.1); rintro e w' ⟨rfl, ⟨nd, rfl⟩⟩; refine ⟨_, rfl, ?_⟩; have hcz52_12 : w49.cell? ⟨gb180, 12, none⟩ = some (.int .i64 a0_12) := (blk_cell BK180.out 12).trans rfl; have hcz52_14 : w49.cell? ⟨gb180, 14, none⟩ = some (.int .i64 a0_14) := (blk_cell BK180.out 14).trans rfl) | ((with_reducible refine gate_dst (N := 21) rfl ?_); refine Kd.R_lit (Kd.int .i64) _ 3 ?hg (N := 21) ?hd (xs := ([a0_14, a0_12] : List Int)) (inner := [.int .i64 a0_14, .int .i64 a0_12]) (ok := fun _ => True) (okp := fun _ => True) ?hr ?hp (fun _ hk => hk) trivial (Below.refl _ _) (Nat.le_refl _) (by simp) ?_; (case hd => rfl); (case hg => rfl); (case hr => first | (go_simp; done) | (go_simp; rfl)); (case hp => exact (Reps.one (show Kd.M (Kd.int .i64) _ _ _ a0_14 [.int .i64 a0_14] from rfl) (Reps.one (show Kd.M (Kd.int .i64) _ _ _ a0_12 [.int .i64 a0_12] from rfl) (Reps.none _ _)))); intro v187 w53 ho54 hb hg_ hnew_; clear hg_ hnew_; (first | rw [← Ny186.out] at ho54 | (simp only [Int.reduceToNat] at ho54; rw [← Ny186.out] at ho54)); have n0_ := Aside0.mk (Kd.R_elder' (by (with_reducible repeat (first | apply Kd.R_alloc | apply Kd.R_drewN | apply Kd.R_drew)); exact HO183.out) (Kd.R_base ho54) hb); have n1_ := Aside0.mk (Kd.R_lower (Kd.R_new' ho54 (Kd.R_lt (by (with_reducible repeat (first | apply Kd.R_alloc | apply Kd.R_drewN | apply Kd.R_drew)); exact HO183.out))) (below_size (bh_ HB))); have n2_ := bb_ BK180 hb; have n3_ := bs_ HB hb; clear HO183; clear BK180; clear HB; have HO183 := n0_; have HO188 := n1_; have BK180 := n2_; have HB := n3_; clear n0_ n1_ n2_ n3_; clear hb ho54; obtain ⟨Ao55, co55, eo55⟩ := Kd.R_slice HO188.out; subst eo55) | ((with_reducible refine gate_callee (f := 42) rfl ?_); refine gl_ (some 22) rfl rfl Tryz.func42 (by kernel_rfl) rfl #[.slice Ao55 y186.length co55] rfl ?_; (with_reducible refine (off_Mul.calls k _ _ y186 t189 true _ ?side1 ?side2 A3.out).mono ?_); (case side1 => repeat (first | exact (Kd.R_reads' HO188.out).2.2 | (with_reducible refine Kd.C_alloc ?_ _) | (with_reducible refine Kd.C_drewN ?_ _) | (with_reducible refine Kd.C_drew ?_))); (case side2 => exact (Kd.R_reads' HO188.out).2.1); rintro e w' ⟨rfl, ⟨nd, rfl⟩⟩; refine ⟨_, rfl, ?_⟩; have hcz56_0 : w53.cell? ⟨gb180, 0, none⟩ = some (.bool a0_0) := (blk_cell BK180.out 0).trans rfl; have hcz56_1 : w53.cell? ⟨gb180, 1, none⟩ = some (.bool a0_1) := (blk_cell BK180.out 1).trans rfl; have hcz56_2 : w53.cell? ⟨gb180, 2, none⟩ = some (.bool a0_2) := (blk_cell BK180.out 2).trans rfl; have hcz56_3 : w53.cell? ⟨gb180, 3, none⟩ = some (.bool a0_3) := (blk_cell BK180.out 3).trans rfl; have hcz56_4 : w53.cell? ⟨gb180, 4, none⟩ = some (.bool a0_4) := (blk_cell BK180.out 4).trans rfl; have hcz56_5 : w53.cell? ⟨gb180, 5, none⟩ = some (.bool a0_5) := (blk_cell BK180.out 5).trans rfl; have hcz56_6 : w53.cell? ⟨gb180, 6, none⟩ = some (.bool a0_6) := (blk_cell BK180.out 6).trans rfl; have hcz56_7 : w53.cell? ⟨gb180, 7, none⟩ = some (.bool a0_7) := (blk_cell BK180.out 7).trans rfl; have hcz56_8 : w53.cell? ⟨gb180, 8, none⟩ = some (.int .i64 a0_8) := (blk_cell BK180.out 8).trans rfl) | (go_at_call 43; (with_reducible refine (conv_May.calls k a0_0 a0_1 a0_2 a0_3 a0_4 a0_5 a0_6 a0_7 a0_8 false _ A7.out).mono ?_); rintro e w57 ⟨rfl, hb⟩; have n0_ := Aside0.mk (Kd.R_below (by (with_reducible repeat (first | apply Kd.R_alloc | apply Kd.R_drewN | apply Kd.R_drew)); exact HO183.out) hb); have n1_ := Aside0.mk (Kd.R_below (by (with_reducible repeat (first | apply Kd.R_alloc | apply Kd.R_drewN | apply Kd.R_drew)); exact HO188.out) hb); have n2_ := bb_ BK180 hb; have n3_ := bs_ HB hb; clear HO183; clear HO188; clear BK180; clear HB; have HO183 := n0_; have HO188 := n1_; have BK180 := n2_; have HB := n3_; clear n0_ n1_ n2_ n3_; (try clear hb)))
     go_ret
     exact ⟨by first | rfl | (simp [errW_none, errW_some] <;> rfl) | (simp [*, errW_none, errW_some] <;> rfl), bh_ HB⟩
   ·rw [if_neg c6] at H
    have c6b0 : decide (t189 ≤ 1099511627776) = false := decide_eq_false c6
    clear c6
    obtain rfl := Option.some.inj H
    go_enter Tryz.func15, Tryz.ntmps15
    go_wp2_with (first | ((with_reducible refine gate_dst (N := 1) rfl ?_); refine box_e 1 #[.bool a0_0, .bool a0_1, .bool a0_2, .bool a0_3, .bool a0_4, .bool a0_5, .bool a0_6, .bool a0_7, .int .i64 a0_8, .string a0_9, .string a0_10, .int .i64 a0_11, .int .i64 a0_12, .int .i64 a0_13, .int .i64 a0_14, .int .i64 a0_15, .bool a0_16, .bool a0_17, .bool a0_18, .bool a0_19, .bool a0_20, .bool a0_21, .bool a0_22, .bool a0_23, .bool a0_24, .bool a0_25] 28 ?_; intro gb180 hg w58 hbox hb; have BK180 := Aside0.mk hbox; have GW180 := bg_ HB hg; have GE180 := bg_ HB hg; replace HB := bs_ HB hb; clear hb hbox hg; have hcz59_11 : w58.cell? ⟨gb180, 11, none⟩ = some (.int .i64 a0_11) := (blk_cell BK180.out 11).trans rfl; have hcz59_13 : w58.cell? ⟨gb180, 13, none⟩ = some (.int .i64 a0_13) := (blk_cell BK180.out 13).trans rfl) | ((with_reducible refine gate_dst (N := 12) rfl ?_); refine Kd.R_lit (Kd.int .i64) _ 3 ?hg (N := 12) ?hd (xs := ([a0_13, a0_11] : List Int)) (inner := [.int .i64 a0_13, .int .i64 a0_11]) (ok := fun _ => True) (okp := fun _ => True) ?hr ?hp (fun _ hk => hk) trivial (Below.refl _ _) (Nat.le_refl _) (by simp) ?_; (case hd => rfl); (case hg => rfl); (case hr => first | (go_simp; done) | (go_simp; rfl)); (case hp => exact (Reps.one (show Kd.M (Kd.int .i64) _ _ _ a0_13 [.int .i64 a0_13] from rfl) (Reps.one (show Kd.M (Kd.int .i64) _ _ _ a0_11 [.int .i64 a0_11] from rfl) (Reps.none _ _)))); intro v182 w60 ho61 hb hg_ hnew_; clear hg_ hnew_; (first | rw [← Ny181.out] at ho61 | (simp only [Int.reduceToNat] at ho61; rw [← Ny181.out] at ho61)); have HO183 := Aside0.mk (Kd.R_lower ho61 (below_size (bh_ HB))); replace BK180 := bb_ BK180 hb; replace HB := bs_ HB hb; clear hb ho61; obtain ⟨Ao62, co62, eo62⟩ := Kd.R_slice HO183.out; subst eo62) | ((with_reducible refine gate_callee (f := 42) rfl ?_); refine gl_ (some 13) rfl rfl Tryz.func42 (by kernel_rfl) rfl #[.slice Ao62 y181.length co62] rfl ?_; (with_reducible refine (off_Mul.calls k _ _ y181 t184 true _ ?side1 ?side2 A2.out).mono ?_); (case side1 => repeat (first | exact (Kd.R_reads' HO183.out).2.2 | (with_reducible refine Kd.C_alloc ?_ _) | (with_reducible refine Kd.C_drewN ?_ _) | (with_reducible refine Kd.C_drew ?_))); (case side2 => exact (Kd.R_reads' HO183.out).2.1); rintro e w' ⟨rfl, ⟨nd, rfl⟩⟩; refine ⟨_, rfl, ?_⟩; have hcz63_12 : w60.cell? ⟨gb180, 12, none⟩ = some (.int .i64 a0_12) := (blk_cell BK180.out 12).trans rfl; have hcz63_14 : w60.cell? ⟨gb180, 14, none⟩ = some (.int .i64 a0_14) := (blk_cell BK180.out 14).trans rfl) | ((with_reducible refine gate_dst (N := 21) rfl ?_); refine Kd.R_lit (Kd.int .i64) _ 3 ?hg (N := 21) ?hd (xs := ([a0_14, a0_12] : List Int)) (inner := [.int .i64 a0_14, .int .i64 a0_12]) (ok := fun _ => True) (okp := fun _ => True) ?hr ?hp (fun _ hk => hk) trivial (Below.refl _ _) (Nat.le_refl _) (by simp) ?_; (case hd => rfl); (case hg => rfl); (case hr => first | (go_simp; done) | (go_simp; rfl)); (case hp => exact (Reps.one (show Kd.M (Kd.int .i64) _ _ _ a0_14 [.int .i64 a0_14] from rfl) (Reps.one (show Kd.M (Kd.int .i64) _ _ _ a0_12 [.int .i64 a0_12] from rfl) (Reps.none _ _)))); intro v187 w64 ho65 hb hg_ hnew_; clear hg_ hnew_; (first | rw [← Ny186.out] at ho65 | (simp only [Int.reduceToNat] at ho65; rw [← Ny186.out] at ho65)); have n0_ := Aside0.mk (Kd.R_elder' (by (with_reducible repeat (first | apply Kd.R_alloc | apply Kd.R_drewN | apply Kd.R_drew)); exact HO183.out) (Kd.R_base ho65) hb); have n1_ := Aside0.mk (Kd.R_lower (Kd.R_new' ho65 (Kd.R_lt (by (with_reducible repeat (first | apply Kd.R_alloc | apply Kd.R_drewN | apply Kd.R_drew)); exact HO183.out))) (below_size (bh_ HB))); have n2_ := bb_ BK180 hb; have n3_ := bs_ HB hb; clear HO183; clear BK180; clear HB; have HO183 := n0_; have HO188 := n1_; have BK180 := n2_; have HB := n3_; clear n0_ n1_ n2_ n3_; clear hb ho65; obtain ⟨Ao66, co66, eo66⟩ := Kd.R_slice HO188.out; subst eo66) | ((with_reducible refine gate_callee (f := 42) rfl ?_); refine gl_ (some 22) rfl rfl Tryz.func42 (by kernel_rfl) rfl #[.slice Ao66 y186.length co66] rfl ?_; (with_reducible refine (off_Mul.calls k _ _ y186 t189 true _ ?side1 ?side2 A3.out).mono ?_); (case side1 => repeat (first | exact (Kd.R_reads' HO188.out).2.2 | (with_reducible refine Kd.C_alloc ?_ _) | (with_reducible refine Kd.C_drewN ?_ _) | (with_reducible refine Kd.C_drew ?_))); (case side2 => exact (Kd.R_reads' HO188.out).2.1); rintro e w' ⟨rfl, ⟨nd, rfl⟩⟩; refine ⟨_, rfl, ?_⟩))
    go_ret
    exact ⟨by first | rfl | (simp [errW_none, errW_some] <;> rfl) | (simp [*, errW_none, errW_some] <;> rfl), bh_ HB⟩
  ·replace c5 := Bool.eq_false_iff.mpr c5
   subst c5
   have H1 : (some false) = some r := by rw [if_neg (show ¬ (false = true) by decide)] at H; exact H
   clear H
   have H := H1
   clear H1
   obtain rfl := Option.some.inj H
   go_enter Tryz.func15, Tryz.ntmps15
   go_wp2_with (first | ((with_reducible refine gate_dst (N := 1) rfl ?_); refine box_e 1 #[.bool a0_0, .bool a0_1, .bool a0_2, .bool a0_3, .bool a0_4, .bool a0_5, .bool a0_6, .bool a0_7, .int .i64 a0_8, .string a0_9, .string a0_10, .int .i64 a0_11, .int .i64 a0_12, .int .i64 a0_13, .int .i64 a0_14, .int .i64 a0_15, .bool a0_16, .bool a0_17, .bool a0_18, .bool a0_19, .bool a0_20, .bool a0_21, .bool a0_22, .bool a0_23, .bool a0_24, .bool a0_25] 28 ?_; intro gb180 hg w67 hbox hb; have BK180 := Aside0.mk hbox; have GW180 := bg_ HB hg; have GE180 := bg_ HB hg; replace HB := bs_ HB hb; clear hb hbox hg; have hcz68_11 : w67.cell? ⟨gb180, 11, none⟩ = some (.int .i64 a0_11) := (blk_cell BK180.out 11).trans rfl; have hcz68_13 : w67.cell? ⟨gb180, 13, none⟩ = some (.int .i64 a0_13) := (blk_cell BK180.out 13).trans rfl) | ((with_reducible refine gate_dst (N := 12) rfl ?_); refine Kd.R_lit (Kd.int .i64) _ 3 ?hg (N := 12) ?hd (xs := ([a0_13, a0_11] : List Int)) (inner := [.int .i64 a0_13, .int .i64 a0_11]) (ok := fun _ => True) (okp := fun _ => True) ?hr ?hp (fun _ hk => hk) trivial (Below.refl _ _) (Nat.le_refl _) (by simp) ?_; (case hd => rfl); (case hg => rfl); (case hr => first | (go_simp; done) | (go_simp; rfl)); (case hp => exact (Reps.one (show Kd.M (Kd.int .i64) _ _ _ a0_13 [.int .i64 a0_13] from rfl) (Reps.one (show Kd.M (Kd.int .i64) _ _ _ a0_11 [.int .i64 a0_11] from rfl) (Reps.none _ _)))); intro v182 w69 ho70 hb hg_ hnew_; clear hg_ hnew_; (first | rw [← Ny181.out] at ho70 | (simp only [Int.reduceToNat] at ho70; rw [← Ny181.out] at ho70)); have HO183 := Aside0.mk (Kd.R_lower ho70 (below_size (bh_ HB))); replace BK180 := bb_ BK180 hb; replace HB := bs_ HB hb; clear hb ho70; obtain ⟨Ao71, co71, eo71⟩ := Kd.R_slice HO183.out; subst eo71) | ((with_reducible refine gate_callee (f := 42) rfl ?_); refine gl_ (some 13) rfl rfl Tryz.func42 (by kernel_rfl) rfl #[.slice Ao71 y181.length co71] rfl ?_; (with_reducible refine (off_Mul.calls k _ _ y181 t184 true _ ?side1 ?side2 A2.out).mono ?_); (case side1 => repeat (first | exact (Kd.R_reads' HO183.out).2.2 | (with_reducible refine Kd.C_alloc ?_ _) | (with_reducible refine Kd.C_drewN ?_ _) | (with_reducible refine Kd.C_drew ?_))); (case side2 => exact (Kd.R_reads' HO183.out).2.1); rintro e w' ⟨rfl, ⟨nd, rfl⟩⟩; refine ⟨_, rfl, ?_⟩; have hcz72_12 : w69.cell? ⟨gb180, 12, none⟩ = some (.int .i64 a0_12) := (blk_cell BK180.out 12).trans rfl; have hcz72_14 : w69.cell? ⟨gb180, 14, none⟩ = some (.int .i64 a0_14) := (blk_cell BK180.out 14).trans rfl) | ((with_reducible refine gate_dst (N := 21) rfl ?_); refine Kd.R_lit (Kd.int .i64) _ 3 ?hg (N := 21) ?hd (xs := ([a0_14, a0_12] : List Int)) (inner := [.int .i64 a0_14, .int .i64 a0_12]) (ok := fun _ => True) (okp := fun _ => True) ?hr ?hp (fun _ hk => hk) trivial (Below.refl _ _) (Nat.le_refl _) (by simp) ?_; (case hd => rfl); (case hg => rfl); (case hr => first | (go_simp; done) | (go_simp; rfl)); (case hp => exact (Reps.one (show Kd.M (Kd.int .i64) _ _ _ a0_14 [.int .i64 a0_14] from rfl) (Reps.one (show Kd.M (Kd.int .i64) _ _ _ a0_12 [.int .i64 a0_12] from rfl) (Reps.none _ _)))); intro v187 w73 ho74 hb hg_ hnew_; clear hg_ hnew_; (first | rw [← Ny186.out] at ho74 | (simp only [Int.reduceToNat] at ho74; rw [← Ny186.out] at ho74)); have n0_ := Aside0.mk (Kd.R_elder' (by (with_reducible repeat (first | apply Kd.R_alloc | apply Kd.R_drewN | apply Kd.R_drew)); exact HO183.out) (Kd.R_base ho74) hb); have n1_ := Aside0.mk (Kd.R_lower (Kd.R_new' ho74 (Kd.R_lt (by (with_reducible repeat (first | apply Kd.R_alloc | apply Kd.R_drewN | apply Kd.R_drew)); exact HO183.out))) (below_size (bh_ HB))); have n2_ := bb_ BK180 hb; have n3_ := bs_ HB hb; clear HO183; clear BK180; clear HB; have HO183 := n0_; have HO188 := n1_; have BK180 := n2_; have HB := n3_; clear n0_ n1_ n2_ n3_; clear hb ho74; obtain ⟨Ao75, co75, eo75⟩ := Kd.R_slice HO188.out; subst eo75) | ((with_reducible refine gate_callee (f := 42) rfl ?_); refine gl_ (some 22) rfl rfl Tryz.func42 (by kernel_rfl) rfl #[.slice Ao75 y186.length co75] rfl ?_; (with_reducible refine (off_Mul.calls k _ _ y186 t189 false _ ?side1 ?side2 A3.out).mono ?_); (case side1 => repeat (first | exact (Kd.R_reads' HO188.out).2.2 | (with_reducible refine Kd.C_alloc ?_ _) | (with_reducible refine Kd.C_drewN ?_ _) | (with_reducible refine Kd.C_drew ?_))); (case side2 => exact (Kd.R_reads' HO188.out).2.1); rintro e w' ⟨rfl, ⟨nd, rfl⟩⟩; refine ⟨_, rfl, ?_⟩))
   go_ret
   exact ⟨by first | rfl | (simp [errW_none, errW_some] <;> rfl) | (simp [*, errW_none, errW_some] <;> rfl), bh_ HB⟩
 ·replace c4 := Bool.eq_false_iff.mpr c4
  subst c4
  have H1 : (some false) = some r := by rw [if_neg (show ¬ (false = true) by decide)] at H; exact H
  clear H
  have H := H1
  clear H1
  obtain rfl := Option.some.inj H
  go_enter Tryz.func15, Tryz.ntmps15
  go_wp2_with (first | ((with_reducible refine gate_dst (N := 1) rfl ?_); refine box_e 1 #[.bool a0_0, .bool a0_1, .bool a0_2, .bool a0_3, .bool a0_4, .bool a0_5, .bool a0_6, .bool a0_7, .int .i64 a0_8, .string a0_9, .string a0_10, .int .i64 a0_11, .int .i64 a0_12, .int .i64 a0_13, .int .i64 a0_14, .int .i64 a0_15, .bool a0_16, .bool a0_17, .bool a0_18, .bool a0_19, .bool a0_20, .bool a0_21, .bool a0_22, .bool a0_23, .bool a0_24, .bool a0_25] 28 ?_; intro gb180 hg w76 hbox hb; have BK180 := Aside0.mk hbox; have GW180 := bg_ HB hg; have GE180 := bg_ HB hg; replace HB := bs_ HB hb; clear hb hbox hg; have hcz77_11 : w76.cell? ⟨gb180, 11, none⟩ = some (.int .i64 a0_11) := (blk_cell BK180.out 11).trans rfl; have hcz77_13 : w76.cell? ⟨gb180, 13, none⟩ = some (.int .i64 a0_13) := (blk_cell BK180.out 13).trans rfl) | ((with_reducible refine gate_dst (N := 12) rfl ?_); refine Kd.R_lit (Kd.int .i64) _ 3 ?hg (N := 12) ?hd (xs := ([a0_13, a0_11] : List Int)) (inner := [.int .i64 a0_13, .int .i64 a0_11]) (ok := fun _ => True) (okp := fun _ => True) ?hr ?hp (fun _ hk => hk) trivial (Below.refl _ _) (Nat.le_refl _) (by simp) ?_; (case hd => rfl); (case hg => rfl); (case hr => first | (go_simp; done) | (go_simp; rfl)); (case hp => exact (Reps.one (show Kd.M (Kd.int .i64) _ _ _ a0_13 [.int .i64 a0_13] from rfl) (Reps.one (show Kd.M (Kd.int .i64) _ _ _ a0_11 [.int .i64 a0_11] from rfl) (Reps.none _ _)))); intro v182 w78 ho79 hb hg_ hnew_; clear hg_ hnew_; (first | rw [← Ny181.out] at ho79 | (simp only [Int.reduceToNat] at ho79; rw [← Ny181.out] at ho79)); have HO183 := Aside0.mk (Kd.R_lower ho79 (below_size (bh_ HB))); replace BK180 := bb_ BK180 hb; replace HB := bs_ HB hb; clear hb ho79; obtain ⟨Ao80, co80, eo80⟩ := Kd.R_slice HO183.out; subst eo80) | ((with_reducible refine gate_callee (f := 42) rfl ?_); refine gl_ (some 13) rfl rfl Tryz.func42 (by kernel_rfl) rfl #[.slice Ao80 y181.length co80] rfl ?_; (with_reducible refine (off_Mul.calls k _ _ y181 t184 false _ ?side1 ?side2 A2.out).mono ?_); (case side1 => repeat (first | exact (Kd.R_reads' HO183.out).2.2 | (with_reducible refine Kd.C_alloc ?_ _) | (with_reducible refine Kd.C_drewN ?_ _) | (with_reducible refine Kd.C_drew ?_))); (case side2 => exact (Kd.R_reads' HO183.out).2.1); rintro e w' ⟨rfl, ⟨nd, rfl⟩⟩; refine ⟨_, rfl, ?_⟩; have hcz81_12 : w78.cell? ⟨gb180, 12, none⟩ = some (.int .i64 a0_12) := (blk_cell BK180.out 12).trans rfl; have hcz81_14 : w78.cell? ⟨gb180, 14, none⟩ = some (.int .i64 a0_14) := (blk_cell BK180.out 14).trans rfl) | ((with_reducible refine gate_dst (N := 21) rfl ?_); refine Kd.R_lit (Kd.int .i64) _ 3 ?hg (N := 21) ?hd (xs := ([a0_14, a0_12] : List Int)) (inner := [.int .i64 a0_14, .int .i64 a0_12]) (ok := fun _ => True) (okp := fun _ => True) ?hr ?hp (fun _ hk => hk) trivial (Below.refl _ _) (Nat.le_refl _) (by simp) ?_; (case hd => rfl); (case hg => rfl); (case hr => first | (go_simp; done) | (go_simp; rfl)); (case hp => exact (Reps.one (show Kd.M (Kd.int .i64) _ _ _ a0_14 [.int .i64 a0_14] from rfl) (Reps.one (show Kd.M (Kd.int .i64) _ _ _ a0_12 [.int .i64 a0_12] from rfl) (Reps.none _ _)))); intro v187 w82 ho83 hb hg_ hnew_; clear hg_ hnew_; (first | rw [← Ny186.out] at ho83 | (simp only [Int.reduceToNat] at ho83; rw [← Ny186.out] at ho83)); have n0_ := Aside0.mk (Kd.R_elder' (by (with_reducible repeat (first | apply Kd.R_alloc | apply Kd.R_drewN | apply Kd.R_drew)); exact HO183.out) (Kd.R_base ho83) hb); have n1_ := Aside0.mk (Kd.R_lower (Kd.R_new' ho83 (Kd.R_lt (by (with_reducible repeat (first | apply Kd.R_alloc | apply Kd.R_drewN | apply Kd.R_drew)); exact HO183.out))) (below_size (bh_ HB))); have n2_ := bb_ BK180 hb; have n3_ := bs_ HB hb; clear HO183; clear BK180; clear HB; have HO183 := n0_; have HO188 := n1_; have BK180 := n2_; have HB := n3_; clear n0_ n1_ n2_ n3_; clear hb ho83; obtain ⟨Ao84, co84, eo84⟩ := Kd.R_slice HO188.out; subst eo84) | ((with_reducible refine gate_callee (f := 42) rfl ?_); refine gl_ (some 22) rfl rfl Tryz.func42 (by kernel_rfl) rfl #[.slice Ao84 y186.length co84] rfl ?_; (with_reducible refine (off_Mul.calls k _ _ y186 t189 t190 _ ?side1 ?side2 A3.out).mono ?_); (case side1 => repeat (first | exact (Kd.R_reads' HO188.out).2.2 | (with_reducible refine Kd.C_alloc ?_ _) | (with_reducible refine Kd.C_drewN ?_ _) | (with_reducible refine Kd.C_drew ?_))); (case side2 => exact (Kd.R_reads' HO188.out).2.1); rintro e w' ⟨rfl, ⟨nd, rfl⟩⟩; refine ⟨_, rfl, ?_⟩))
  go_ret
  exact ⟨by first | rfl | (simp [errW_none, errW_some] <;> rfl) | (simp [*, errW_none, errW_some] <;> rfl), bh_ HB⟩
def operand_converts.f (a0_0 a0_1 a0_2 a0_3 a0_4 a0_5 a0_6 a0_7 : Bool) (a0_8 : Int) : Option (Bool) := some (a0_0 || (a0_1 || (a0_2 || (a0_3 || (a0_4 || (a0_5 || (a0_6 || (a0_7))))))))
set_option maxHeartbeats 8000000 in
set_option maxRecDepth 100000 in
theorem operand_converts.calls (a0_0 a0_1 a0_2 a0_3 a0_4 a0_5 a0_6 a0_7 : Bool) (a0_8 : Int) (r : Bool) (w : World) (h : operand_converts.f a0_0 a0_1 a0_2 a0_3 a0_4 a0_5 a0_6 a0_7 a0_8 = some r) :
    Calls Tryz.prog 17 #[.agg #[.bool a0_0, .bool a0_1, .bool a0_2, .bool a0_3, .bool a0_4, .bool a0_5, .bool a0_6, .bool a0_7, .int .i64 a0_8]] w fun e w' => e = .returned (.bool r) ∧ Below w.heap.size w w' := by
  have hu26 := Tryz.underlying26
  have HB := Aside0.mk (Below.refl w.heap.size w)
  have H : (some (a0_0 || (a0_1 || (a0_2 || (a0_3 || (a0_4 || (a0_5 || (a0_6 || (a0_7))))))))) = some r := h
  clear h
  obtain rfl := Option.some.inj H
  go_enter Tryz.func17, Tryz.ntmps17
  go_wp2_with (first | ((with_reducible refine gate_dst (N := 1) rfl ?_); refine box_e 1 #[.bool a0_0, .bool a0_1, .bool a0_2, .bool a0_3, .bool a0_4, .bool a0_5, .bool a0_6, .bool a0_7, .int .i64 a0_8] 26 ?_; intro gb192 hg w2 hbox hb; have BK192 := Aside0.mk hbox; have GW192 := bg_ HB hg; have GE192 := bg_ HB hg; replace HB := bs_ HB hb; clear hb hbox hg; have hcz3_0 : w2.cell? ⟨gb192, 0, none⟩ = some (.bool a0_0) := (blk_cell BK192.out 0).trans rfl; have hcz3_1 : w2.cell? ⟨gb192, 1, none⟩ = some (.bool a0_1) := (blk_cell BK192.out 1).trans rfl; have hcz3_2 : w2.cell? ⟨gb192, 2, none⟩ = some (.bool a0_2) := (blk_cell BK192.out 2).trans rfl; have hcz3_3 : w2.cell? ⟨gb192, 3, none⟩ = some (.bool a0_3) := (blk_cell BK192.out 3).trans rfl; have hcz3_4 : w2.cell? ⟨gb192, 4, none⟩ = some (.bool a0_4) := (blk_cell BK192.out 4).trans rfl; have hcz3_5 : w2.cell? ⟨gb192, 5, none⟩ = some (.bool a0_5) := (blk_cell BK192.out 5).trans rfl; have hcz3_6 : w2.cell? ⟨gb192, 6, none⟩ = some (.bool a0_6) := (blk_cell BK192.out 6).trans rfl; have hcz3_7 : w2.cell? ⟨gb192, 7, none⟩ = some (.bool a0_7) := (blk_cell BK192.out 7).trans rfl; have hcz3_8 : w2.cell? ⟨gb192, 8, none⟩ = some (.int .i64 a0_8) := (blk_cell BK192.out 8).trans rfl; have hfz3_0 := blk_frozen BK192.out 0; have hfz3_1 := blk_frozen BK192.out 1; have hfz3_2 := blk_frozen BK192.out 2; have hfz3_3 := blk_frozen BK192.out 3; have hfz3_4 := blk_frozen BK192.out 4; have hfz3_5 := blk_frozen BK192.out 5; have hfz3_6 := blk_frozen BK192.out 6; have hfz3_7 := blk_frozen BK192.out 7; have hfz3_8 := blk_frozen BK192.out 8))
  go_ret
  exact ⟨by first | rfl | (simp [errW_none, errW_some] <;> rfl) | (simp [*, errW_none, errW_some] <;> rfl), bh_ HB⟩
def salvorref6_cutAt.l0 : Nat → ByteArray → Int → Int → Option (ByteArray × ByteArray × Bool)
 | 0, _, _, _ => none
 | k + 1, x0, x1, x7 => if x7 < (x0.size : Int) then (if 0 ≤ x7 then (if (bt x0 x7) = x1 then (if x7 ≤ (x0.size : Int) then (if 0 ≤ (wrap64 (x7 + 1)) then (if (wrap64 (x7 + 1)) ≤ (x0.size : Int) then (some (x0.extract 0 (x7 : Int).toNat, x0.extract ((wrap64 (x7 + 1)) : Int).toNat x0.size, true)) else (none)) else (none)) else (none)) else (salvorref6_cutAt.l0 k x0 x1 (wrap64 (x7 + 1)))) else (none)) else (some (x0, (⟨#[]⟩ : ByteArray), false))
def salvorref6_cutAt.f (k : Nat) (a0 : ByteArray) (a1 : Int) : Option (ByteArray × ByteArray × Bool) := salvorref6_cutAt.l0 k a0 a1 0
theorem salvorref6_cutAt.mono_l : ∀ k, (∀ y0 y1 y2, LeO (salvorref6_cutAt.l0 k y0 y1 y2) (salvorref6_cutAt.l0 (k + 1) y0 y1 y2))
 | 0 => fun _ _ _ r h => by simp [salvorref6_cutAt.l0] at h
 | k + 1 => by
  have ih0 := salvorref6_cutAt.mono_l k
  ·intro y0 y1 y2
   unfold salvorref6_cutAt.l0
   repeat' first
   | (with_reducible exact ih0 _ _ _)
   | (with_reducible exact LeO.refl _)
   | (with_reducible exact LeO.none _)
   | (with_reducible refine LeO.ite ?_ ?_)
   | (with_reducible refine LeO.bind ?_ (fun _ => ?_))
   | refine LeO.bind ?_ (fun _ => ?_)
theorem salvorref6_cutAt.mono : ∀ a0 a1 k, LeO (salvorref6_cutAt.f k a0 a1) (salvorref6_cutAt.f (k + 1) a0 a1) := by
 intro a0 a1 k
 have ih0 := salvorref6_cutAt.mono_l k
 unfold salvorref6_cutAt.f
 repeat' first
   | (with_reducible exact ih0 _ _ _)
   | (with_reducible exact LeO.refl _)
   | (with_reducible exact LeO.none _)
   | (with_reducible refine LeO.ite ?_ ?_)
   | (with_reducible refine LeO.bind ?_ (fun _ => ?_))
   | refine LeO.bind ?_ (fun _ => ?_)
set_option maxHeartbeats 8000000 in
set_option maxRecDepth 100000 in
theorem salvorref6_cutAt.calls (k : Nat) (a0 : ByteArray) (a1 : Int) (r1 r2 : ByteArray) (r3 : Bool) (w : World) (h : salvorref6_cutAt.f k a0 a1 = some (r1, r2, r3)) :
  Calls Tryz.prog 44 #[.string a0, .int .u8 a1] w fun e w' => e = .returned (.tuple #[.string r1, .string r2, .bool r3]) ∧ Drawn0 w w' := by
 have H : (salvorref6_cutAt.l0 k a0 a1 0) = some (r1, r2, r3) := h
 clear h
 have H' := Aside0.mk H
 clear H
 go_enter Tryz.func44, Tryz.ntmps44
 go_wp2
 repeat (go_quiet (fail); try go_wp2)
 go_loopg [7] k (fun kq v7 w' => ∃ (x7_1 : Int), v7 = .int .i64 x7_1 ∧ Aside0 (salvorref6_cutAt.l0 kq a0 a1 x7_1 = some (r1, r2, r3)) ∧ Aside0 (kq ≤ k) ∧ Drawn0 w w')
 case atStart => exact ⟨(0), (by first | rfl | (simp; done) | (simp [*]; done)), H', ⟨Nat.le_refl _⟩, by repeat (first | exact Drawn0.refl _ | apply Drawn0.step)⟩
 case round =>
  clear H'
  try clear p2
  obtain ⟨x7_1, rfl, HA, HK1, ⟨m1, rfl⟩⟩ := hrel
  cases gk with
  | zero => exact absurd HA.out (by simp [salvorref6_cutAt.l0])
  | succ k1 =>
   have H := HA.out
   clear HA
   simp only [salvorref6_cutAt.l0] at H
   by_cases c3 : x7_1 < (a0.size : Int)
   ·rw [if_pos c3] at H
    have c3b0 : decide (x7_1 < (a0.size : Int)) = true := decide_eq_true c3
    clear c3
    by_cases c4 : 0 ≤ x7_1
    ·rw [if_pos c4] at H
     have c4b0 : decide (0 ≤ x7_1) = true := decide_eq_true c4
     clear c4
     by_cases c6 : (bt a0 x7_1) = a1
     ·rw [if_pos c6] at H
      have c6b0 : ((bt a0 x7_1) == a1) = true := beq_iff_eq.mpr c6
      have c6b1 : ((bt a0 x7_1) != a1) = false := bne_eq_false_iff_eq.mpr c6
      clear c6
      have c7b0 := eq_true (of_decide_eq_true (by first | (with_reducible assumption) | assumption) : 0 ≤ x7_1)
      by_cases c8 : x7_1 ≤ (a0.size : Int)
      ·rw [if_pos c8] at H
       have c8b0 := eq_true c8
       have c8b1 : decide (x7_1 ≤ (a0.size : Int)) = true := decide_eq_true c8
       clear c8
       obtain ⟨ji9, hji9⟩ : ∃ j_ : Int, (wrap64 (x7_1 + 1)) = j_ := ⟨_, rfl⟩
       replace H : (if 0 ≤ (ji9) then (if (ji9) ≤ (a0.size : Int) then (some (a0.extract 0 (x7_1 : Int).toNat, a0.extract ((ji9) : Int).toNat a0.size, true)) else (none)) else (none)) = some (r1, r2, r3) := by first | (rw [hji9] at H; exact H) | (simp only [hji9] at H ⊢; exact H)
       have hji9w : (IntKind.i64.wrap (x7_1 + 1)) = ji9 := (i64_w _).trans hji9
       by_cases c10 : 0 ≤ (ji9)
       ·rw [if_pos c10] at H
        have c10b0 := eq_true c10
        have c10b1 : decide (0 ≤ (ji9)) = true := decide_eq_true c10
        clear c10
        by_cases c11 : (ji9) ≤ (a0.size : Int)
        ·rw [if_pos c11] at H
         have c11b0 := eq_true c11
         have c11b1 : decide ((ji9) ≤ (a0.size : Int)) = true := decide_eq_true c11
         clear c11
         simp only [Option.some.injEq, Prod.mk.injEq] at H
         obtain ⟨rfl, rfl, rfl⟩ := H
         have p5 : 0 ≤ (x7_1 : Int) := of_decide_eq_true (by first | (with_reducible assumption) | assumption)
         have q5 : x7_1 < (a0.size : Int) := of_decide_eq_true (by first | (with_reducible assumption) | assumption)
         have hx5 := bt_at a0 x7_1
         replace p5 := eq_true p5
         replace q5 := eq_true q5
         go_wp2
         repeat (go_quiet (fail); try go_wp2)
         go_ret3
         exact ⟨by first | rfl | (simp; done) | (simp only [← hji9] <;> (first | rfl | simp)) | (simp [*]; done), by repeat (first | exact Drawn0.refl _ | apply Drawn0.step)⟩
        ·rw [if_neg c11] at H
         exact absurd H (by simp)
       ·rw [if_neg c10] at H
        exact absurd H (by simp)
      ·rw [if_neg c8] at H
       exact absurd H (by simp)
     ·rw [if_neg c6] at H
      have c6b0 : ((bt a0 x7_1) == a1) = false := beq_eq_false_iff_ne.mpr c6
      have c6b1 : ((bt a0 x7_1) != a1) = true := bne_iff_ne.mpr c6
      have H' := Aside0.mk H
      clear H
      have p5 : 0 ≤ (x7_1 : Int) := of_decide_eq_true (by first | (with_reducible assumption) | assumption)
      have q5 : x7_1 < (a0.size : Int) := of_decide_eq_true (by first | (with_reducible assumption) | assumption)
      have hx5 := bt_at a0 x7_1
      replace p5 := eq_true p5
      replace q5 := eq_true q5
      go_wp2
      repeat (go_quiet (fail); try go_wp2)
      go_roundg k1
      case measure => have := HK1.out; omega
      case rel => exact ⟨(wrap64 (x7_1 + 1)), (by first | rfl | (simp; done) | (simp [*]; done)), H', ⟨by have := HK1.out; omega⟩, by repeat (first | exact Drawn0.refl _ | apply Drawn0.step)⟩
    ·rw [if_neg c4] at H
     exact absurd H (by simp)
   ·rw [if_neg c3] at H
    have c3b0 : decide (x7_1 < (a0.size : Int)) = false := decide_eq_false c3
    clear c3
    simp only [Option.some.injEq, Prod.mk.injEq] at H
    obtain ⟨rfl, rfl, rfl⟩ := H
    go_wp2
    repeat (go_quiet (fail); try go_wp2)
    go_ret3
    exact ⟨by first | rfl | (simp; done) | (simp [*]; done), by repeat (first | exact Drawn0.refl _ | apply Drawn0.step)⟩
def salvorref6_letters.l0 : Nat → ByteArray → Int → Option (Bool)
 | 0, _, _ => none
 | k + 1, x0, x3 => if x3 < (x0.size : Int) then (if 0 ≤ x3 then (if (bt x0 x3) < 97 then (some false) else (if (bt x0 x3) > 122 then (some false) else (salvorref6_letters.l0 k x0 (wrap64 (x3 + 1))))) else (none)) else (if (x0.size : Int) ≥ 1 then (some (decide ((x0.size : Int) ≤ 10))) else (some false))
def salvorref6_letters.f (k : Nat) (a0 : ByteArray) : Option (Bool) := salvorref6_letters.l0 k a0 0
theorem salvorref6_letters.mono_l : ∀ k, (∀ y0 y1, LeO (salvorref6_letters.l0 k y0 y1) (salvorref6_letters.l0 (k + 1) y0 y1))
 | 0 => fun _ _ r h => by simp [salvorref6_letters.l0] at h
 | k + 1 => by
  have ih0 := salvorref6_letters.mono_l k
  ·intro y0 y1
   unfold salvorref6_letters.l0
   repeat' first
   | (with_reducible exact ih0 _ _)
   | (with_reducible exact LeO.refl _)
   | (with_reducible exact LeO.none _)
   | (with_reducible refine LeO.ite ?_ ?_)
   | (with_reducible refine LeO.bind ?_ (fun _ => ?_))
   | refine LeO.bind ?_ (fun _ => ?_)
theorem salvorref6_letters.mono : ∀ a0 k, LeO (salvorref6_letters.f k a0) (salvorref6_letters.f (k + 1) a0) := by
 intro a0 k
 have ih0 := salvorref6_letters.mono_l k
 unfold salvorref6_letters.f
 repeat' first
   | (with_reducible exact ih0 _ _)
   | (with_reducible exact LeO.refl _)
   | (with_reducible exact LeO.none _)
   | (with_reducible refine LeO.ite ?_ ?_)
   | (with_reducible refine LeO.bind ?_ (fun _ => ?_))
   | refine LeO.bind ?_ (fun _ => ?_)
set_option maxHeartbeats 8000000 in
set_option maxRecDepth 100000 in
theorem salvorref6_letters.calls (k : Nat) (a0 : ByteArray) (r : Bool) (w : World) (h : salvorref6_letters.f k a0 = some r) :
  Calls Tryz.prog 45 #[.string a0] w fun e w' => e = .returned (.bool r) ∧ Drawn0 w w' := by
 have H : (salvorref6_letters.l0 k a0 0) = some r := h
 clear h
 have H' := Aside0.mk H
 clear H
 go_enter Tryz.func45, Tryz.ntmps45
 go_wp2
 go_loopg [3] k (fun kq v3 w' => ∃ (x3_1 : Int), v3 = .int .i64 x3_1 ∧ Aside0 (salvorref6_letters.l0 kq a0 x3_1 = some r) ∧ Aside0 (kq ≤ k) ∧ Drawn0 w w')
 case atStart => exact ⟨(0), (by first | rfl | (simp; done) | (simp [*]; done)), H', ⟨Nat.le_refl _⟩, by repeat (first | exact Drawn0.refl _ | apply Drawn0.step)⟩
 case round =>
  clear H'
  obtain ⟨x3_1, rfl, HA, HK1, ⟨m1, rfl⟩⟩ := hrel
  cases gk with
  | zero => exact absurd HA.out (by simp [salvorref6_letters.l0])
  | succ k1 =>
   have H := HA.out
   clear HA
   simp only [salvorref6_letters.l0] at H
   by_cases c2 : x3_1 < (a0.size : Int)
   ·rw [if_pos c2] at H
    have c2b0 : decide (x3_1 < (a0.size : Int)) = true := decide_eq_true c2
    clear c2
    by_cases c3 : 0 ≤ x3_1
    ·rw [if_pos c3] at H
     have c3b0 : decide (0 ≤ x3_1) = true := decide_eq_true c3
     clear c3
     by_cases c5 : (bt a0 x3_1) < 97
     ·rw [if_pos c5] at H
      have c5b0 : decide ((bt a0 x3_1) < 97) = true := decide_eq_true c5
      clear c5
      obtain rfl := Option.some.inj H
      have p4 : 0 ≤ (x3_1 : Int) := of_decide_eq_true (by first | (with_reducible assumption) | assumption)
      have q4 : x3_1 < (a0.size : Int) := of_decide_eq_true (by first | (with_reducible assumption) | assumption)
      have hx4 := bt_at a0 x3_1
      replace p4 := eq_true p4
      replace q4 := eq_true q4
      go_wp2
      go_ret
      exact ⟨by first | rfl | (simp; done) | (simp [*]; done), by repeat (first | exact Drawn0.refl _ | apply Drawn0.step)⟩
     ·rw [if_neg c5] at H
      have c5b0 : decide ((bt a0 x3_1) < 97) = false := decide_eq_false c5
      clear c5
      by_cases c7 : (bt a0 x3_1) > 122
      ·rw [if_pos c7] at H
       have c7b0 : decide (122 < (bt a0 x3_1)) = true := decide_eq_true c7
       clear c7
       obtain rfl := Option.some.inj H
       have p4 : 0 ≤ (x3_1 : Int) := of_decide_eq_true (by first | (with_reducible assumption) | assumption)
       have q4 : x3_1 < (a0.size : Int) := of_decide_eq_true (by first | (with_reducible assumption) | assumption)
       have hx4 := bt_at a0 x3_1
       replace p4 := eq_true p4
       replace q4 := eq_true q4
       have p6 : 0 ≤ (x3_1 : Int) := of_decide_eq_true (by first | (with_reducible assumption) | assumption)
       have q6 : x3_1 < (a0.size : Int) := of_decide_eq_true (by first | (with_reducible assumption) | assumption)
       have hx6 := bt_at a0 x3_1
       replace p6 := eq_true p6
       replace q6 := eq_true q6
       go_wp2
       go_ret
       exact ⟨by first | rfl | (simp; done) | (simp [*]; done), by repeat (first | exact Drawn0.refl _ | apply Drawn0.step)⟩
      ·rw [if_neg c7] at H
       have c7b0 : decide (122 < (bt a0 x3_1)) = false := decide_eq_false c7
       clear c7
       have H' := Aside0.mk H
       clear H
       have p4 : 0 ≤ (x3_1 : Int) := of_decide_eq_true (by first | (with_reducible assumption) | assumption)
       have q4 : x3_1 < (a0.size : Int) := of_decide_eq_true (by first | (with_reducible assumption) | assumption)
       have hx4 := bt_at a0 x3_1
       replace p4 := eq_true p4
       replace q4 := eq_true q4
       have p6 : 0 ≤ (x3_1 : Int) := of_decide_eq_true (by first | (with_reducible assumption) | assumption)
       have q6 : x3_1 < (a0.size : Int) := of_decide_eq_true (by first | (with_reducible assumption) | assumption)
       have hx6 := bt_at a0 x3_1
       replace p6 := eq_true p6
       replace q6 := eq_true q6
       go_wp2
       go_roundg k1
       case measure => have := HK1.out; omega
       case rel => exact ⟨(wrap64 (x3_1 + 1)), (by first | rfl | (simp; done) | (simp [*]; done)), H', ⟨by have := HK1.out; omega⟩, by repeat (first | exact Drawn0.refl _ | apply Drawn0.step)⟩
    ·rw [if_neg c3] at H
     exact absurd H (by simp)
   ·rw [if_neg c2] at H
    have c2b0 : decide (x3_1 < (a0.size : Int)) = false := decide_eq_false c2
    clear c2
    by_cases c8 : (a0.size : Int) ≥ 1
    ·rw [if_pos c8] at H
     have c8b0 : decide (1 ≤ (a0.size : Int)) = true := decide_eq_true c8
     have c8b1 : decide (1 ≤ a0.size) = true := decide_eq_true (by omega)
     clear c8
     obtain rfl := Option.some.inj H
     go_wp2
     go_ret
     exact ⟨by first | rfl | (simp; done) | (simp [*]; done), by repeat (first | exact Drawn0.refl _ | apply Drawn0.step)⟩
    ·rw [if_neg c8] at H
     have c8b0 : decide (1 ≤ (a0.size : Int)) = false := decide_eq_false c8
     have c8b1 : decide (1 ≤ a0.size) = false := decide_eq_false (by omega)
     clear c8
     obtain rfl := Option.some.inj H
     go_wp2
     go_ret
     exact ⟨by first | rfl | (simp; done) | (simp [*]; done), by repeat (first | exact Drawn0.refl _ | apply Drawn0.step)⟩
end Go.Proofs.YtbmhfnncagncmaaGreatDoor.P
