import Derived.Test.YtbmhfnncagncmaaGreatDoorPx0
namespace Go.Proofs.YtbmhfnncagncmaaGreatDoor.P
open Go.RowKit Go.Proofs.YtbmhfnncagncmaaGreatDoorW.PrintWords Go.Proofs.YtbmhfnncagncmaaGreatDoorW.PrintLast Go.Proofs.YtbmhfnncagncmaaGreatDoorW.PrintMore
attribute [local go_sem] max2_int min2_int max_two min_two max_three min_three max_four min_four
set_option linter.unusedVariables false
set_option linter.unusedSimpArgs false
def conv_blocks.f (a0_0 a0_1 a0_2 a0_3 a0_4 a0_5 a0_6 a0_7 : Bool) (a0_8 : Int) : Option (Bool) := if a0_1 = true then (some true) else (if a0_6 = true then (some true) else (some a0_7))
set_option maxHeartbeats 8000000 in
set_option maxRecDepth 100000 in
theorem conv_blocks.calls (a0_0 a0_1 a0_2 a0_3 a0_4 a0_5 a0_6 a0_7 : Bool) (a0_8 : Int) (r : Bool) (w : World) (h : conv_blocks.f a0_0 a0_1 a0_2 a0_3 a0_4 a0_5 a0_6 a0_7 a0_8 = some r) :
  Calls Tryz.prog 64 #[.agg #[.bool a0_0, .bool a0_1, .bool a0_2, .bool a0_3, .bool a0_4, .bool a0_5, .bool a0_6, .bool a0_7, .int .i64 a0_8]] w fun e w' => e = .returned (.bool r) ∧ Below w.heap.size w w' := by
 have hu26 := Tryz.underlying26
 have HB := Aside0.mk (Below.refl w.heap.size w)
 have H : (if a0_1 = true then (some true) else (if a0_6 = true then (some true) else (some a0_7))) = some r := h
 clear h
 by_cases c2 : a0_1 = true
 ·subst c2
  have H1 := H; rw [if_pos rfl] at H1
  clear H
  have H := H1
  clear H1
  obtain rfl := Option.some.inj H
  go_enter Tryz.func64, Tryz.ntmps64
  go_wp2_with (first | ((with_reducible refine gate_dst (N := 1) rfl ?_); refine box_e 1 #[.bool a0_0, .bool true, .bool a0_2, .bool a0_3, .bool a0_4, .bool a0_5, .bool a0_6, .bool a0_7, .int .i64 a0_8] 26 ?_; intro gb160 hg w3 hbox hb; have BK160 := Aside0.mk hbox; have GW160 := bg_ HB hg; have GE160 := bg_ HB hg; replace HB := bs_ HB hb; clear hb hbox hg; have hcz4_0 : w3.cell? ⟨gb160, 0, none⟩ = some (.bool a0_0) := (blk_cell BK160.out 0).trans rfl; have hcz4_1 : w3.cell? ⟨gb160, 1, none⟩ = some (.bool true) := (blk_cell BK160.out 1).trans rfl; have hcz4_2 : w3.cell? ⟨gb160, 2, none⟩ = some (.bool a0_2) := (blk_cell BK160.out 2).trans rfl; have hcz4_3 : w3.cell? ⟨gb160, 3, none⟩ = some (.bool a0_3) := (blk_cell BK160.out 3).trans rfl; have hcz4_4 : w3.cell? ⟨gb160, 4, none⟩ = some (.bool a0_4) := (blk_cell BK160.out 4).trans rfl; have hcz4_5 : w3.cell? ⟨gb160, 5, none⟩ = some (.bool a0_5) := (blk_cell BK160.out 5).trans rfl; have hcz4_6 : w3.cell? ⟨gb160, 6, none⟩ = some (.bool a0_6) := (blk_cell BK160.out 6).trans rfl; have hcz4_7 : w3.cell? ⟨gb160, 7, none⟩ = some (.bool a0_7) := (blk_cell BK160.out 7).trans rfl; have hcz4_8 : w3.cell? ⟨gb160, 8, none⟩ = some (.int .i64 a0_8) := (blk_cell BK160.out 8).trans rfl; have hfz4_0 := blk_frozen BK160.out 0; have hfz4_1 := blk_frozen BK160.out 1; have hfz4_2 := blk_frozen BK160.out 2; have hfz4_3 := blk_frozen BK160.out 3; have hfz4_4 := blk_frozen BK160.out 4; have hfz4_5 := blk_frozen BK160.out 5; have hfz4_6 := blk_frozen BK160.out 6; have hfz4_7 := blk_frozen BK160.out 7; have hfz4_8 := blk_frozen BK160.out 8))
  go_ret
  exact ⟨by first | rfl | (simp [errW_none, errW_some] <;> rfl) | (simp [*, errW_none, errW_some] <;> rfl), bh_ HB⟩
 ·replace c2 := Bool.eq_false_iff.mpr c2
  subst c2
  have H1 : (if a0_6 = true then (some true) else (some a0_7)) = some r := by rw [if_neg (show ¬ (false = true) by decide)] at H; exact H
  clear H
  have H := H1
  clear H1
  by_cases c5 : a0_6 = true
  ·subst c5
   have H1 := H; rw [if_pos rfl] at H1
   clear H
   have H := H1
   clear H1
   obtain rfl := Option.some.inj H
   go_enter Tryz.func64, Tryz.ntmps64
   go_wp2_with (first | ((with_reducible refine gate_dst (N := 1) rfl ?_); refine box_e 1 #[.bool a0_0, .bool false, .bool a0_2, .bool a0_3, .bool a0_4, .bool a0_5, .bool true, .bool a0_7, .int .i64 a0_8] 26 ?_; intro gb160 hg w6 hbox hb; have BK160 := Aside0.mk hbox; have GW160 := bg_ HB hg; have GE160 := bg_ HB hg; replace HB := bs_ HB hb; clear hb hbox hg; have hcz7_0 : w6.cell? ⟨gb160, 0, none⟩ = some (.bool a0_0) := (blk_cell BK160.out 0).trans rfl; have hcz7_1 : w6.cell? ⟨gb160, 1, none⟩ = some (.bool false) := (blk_cell BK160.out 1).trans rfl; have hcz7_2 : w6.cell? ⟨gb160, 2, none⟩ = some (.bool a0_2) := (blk_cell BK160.out 2).trans rfl; have hcz7_3 : w6.cell? ⟨gb160, 3, none⟩ = some (.bool a0_3) := (blk_cell BK160.out 3).trans rfl; have hcz7_4 : w6.cell? ⟨gb160, 4, none⟩ = some (.bool a0_4) := (blk_cell BK160.out 4).trans rfl; have hcz7_5 : w6.cell? ⟨gb160, 5, none⟩ = some (.bool a0_5) := (blk_cell BK160.out 5).trans rfl; have hcz7_6 : w6.cell? ⟨gb160, 6, none⟩ = some (.bool true) := (blk_cell BK160.out 6).trans rfl; have hcz7_7 : w6.cell? ⟨gb160, 7, none⟩ = some (.bool a0_7) := (blk_cell BK160.out 7).trans rfl; have hcz7_8 : w6.cell? ⟨gb160, 8, none⟩ = some (.int .i64 a0_8) := (blk_cell BK160.out 8).trans rfl; have hfz7_0 := blk_frozen BK160.out 0; have hfz7_1 := blk_frozen BK160.out 1; have hfz7_2 := blk_frozen BK160.out 2; have hfz7_3 := blk_frozen BK160.out 3; have hfz7_4 := blk_frozen BK160.out 4; have hfz7_5 := blk_frozen BK160.out 5; have hfz7_6 := blk_frozen BK160.out 6; have hfz7_7 := blk_frozen BK160.out 7; have hfz7_8 := blk_frozen BK160.out 8))
   go_ret
   exact ⟨by first | rfl | (simp [errW_none, errW_some] <;> rfl) | (simp [*, errW_none, errW_some] <;> rfl), bh_ HB⟩
  ·replace c5 := Bool.eq_false_iff.mpr c5
   subst c5
   have H1 : (some a0_7) = some r := by rw [if_neg (show ¬ (false = true) by decide)] at H; exact H
   clear H
   have H := H1
   clear H1
   obtain rfl := Option.some.inj H
   go_enter Tryz.func64, Tryz.ntmps64
   go_wp2_with (first | ((with_reducible refine gate_dst (N := 1) rfl ?_); refine box_e 1 #[.bool a0_0, .bool false, .bool a0_2, .bool a0_3, .bool a0_4, .bool a0_5, .bool false, .bool a0_7, .int .i64 a0_8] 26 ?_; intro gb160 hg w8 hbox hb; have BK160 := Aside0.mk hbox; have GW160 := bg_ HB hg; have GE160 := bg_ HB hg; replace HB := bs_ HB hb; clear hb hbox hg; have hcz9_0 : w8.cell? ⟨gb160, 0, none⟩ = some (.bool a0_0) := (blk_cell BK160.out 0).trans rfl; have hcz9_1 : w8.cell? ⟨gb160, 1, none⟩ = some (.bool false) := (blk_cell BK160.out 1).trans rfl; have hcz9_2 : w8.cell? ⟨gb160, 2, none⟩ = some (.bool a0_2) := (blk_cell BK160.out 2).trans rfl; have hcz9_3 : w8.cell? ⟨gb160, 3, none⟩ = some (.bool a0_3) := (blk_cell BK160.out 3).trans rfl; have hcz9_4 : w8.cell? ⟨gb160, 4, none⟩ = some (.bool a0_4) := (blk_cell BK160.out 4).trans rfl; have hcz9_5 : w8.cell? ⟨gb160, 5, none⟩ = some (.bool a0_5) := (blk_cell BK160.out 5).trans rfl; have hcz9_6 : w8.cell? ⟨gb160, 6, none⟩ = some (.bool false) := (blk_cell BK160.out 6).trans rfl; have hcz9_7 : w8.cell? ⟨gb160, 7, none⟩ = some (.bool a0_7) := (blk_cell BK160.out 7).trans rfl; have hcz9_8 : w8.cell? ⟨gb160, 8, none⟩ = some (.int .i64 a0_8) := (blk_cell BK160.out 8).trans rfl; have hfz9_0 := blk_frozen BK160.out 0; have hfz9_1 := blk_frozen BK160.out 1; have hfz9_2 := blk_frozen BK160.out 2; have hfz9_3 := blk_frozen BK160.out 3; have hfz9_4 := blk_frozen BK160.out 4; have hfz9_5 := blk_frozen BK160.out 5; have hfz9_6 := blk_frozen BK160.out 6; have hfz9_7 := blk_frozen BK160.out 7; have hfz9_8 := blk_frozen BK160.out 8))
   go_ret
   exact ⟨by first | rfl | (simp [errW_none, errW_some] <;> rfl) | (simp [*, errW_none, errW_some] <;> rfl), bh_ HB⟩
def conv_unblocks.f (a0_0 a0_1 a0_2 a0_3 a0_4 a0_5 a0_6 a0_7 : Bool) (a0_8 : Int) : Option (Bool) := if a0_2 = true then (some true) else (some a0_5)
set_option maxHeartbeats 8000000 in
set_option maxRecDepth 100000 in
theorem conv_unblocks.calls (a0_0 a0_1 a0_2 a0_3 a0_4 a0_5 a0_6 a0_7 : Bool) (a0_8 : Int) (r : Bool) (w : World) (h : conv_unblocks.f a0_0 a0_1 a0_2 a0_3 a0_4 a0_5 a0_6 a0_7 a0_8 = some r) :
  Calls Tryz.prog 65 #[.agg #[.bool a0_0, .bool a0_1, .bool a0_2, .bool a0_3, .bool a0_4, .bool a0_5, .bool a0_6, .bool a0_7, .int .i64 a0_8]] w fun e w' => e = .returned (.bool r) ∧ Below w.heap.size w w' := by
 have hu26 := Tryz.underlying26
 have HB := Aside0.mk (Below.refl w.heap.size w)
 have H : (if a0_2 = true then (some true) else (some a0_5)) = some r := h
 clear h
 by_cases c2 : a0_2 = true
 ·subst c2
  have H1 := H; rw [if_pos rfl] at H1
  clear H
  have H := H1
  clear H1
  obtain rfl := Option.some.inj H
  go_enter Tryz.func65, Tryz.ntmps65
  go_wp2_with (first | ((with_reducible refine gate_dst (N := 1) rfl ?_); refine box_e 1 #[.bool a0_0, .bool a0_1, .bool true, .bool a0_3, .bool a0_4, .bool a0_5, .bool a0_6, .bool a0_7, .int .i64 a0_8] 26 ?_; intro gb161 hg w3 hbox hb; have BK161 := Aside0.mk hbox; have GW161 := bg_ HB hg; have GE161 := bg_ HB hg; replace HB := bs_ HB hb; clear hb hbox hg; have hcz4_0 : w3.cell? ⟨gb161, 0, none⟩ = some (.bool a0_0) := (blk_cell BK161.out 0).trans rfl; have hcz4_1 : w3.cell? ⟨gb161, 1, none⟩ = some (.bool a0_1) := (blk_cell BK161.out 1).trans rfl; have hcz4_2 : w3.cell? ⟨gb161, 2, none⟩ = some (.bool true) := (blk_cell BK161.out 2).trans rfl; have hcz4_3 : w3.cell? ⟨gb161, 3, none⟩ = some (.bool a0_3) := (blk_cell BK161.out 3).trans rfl; have hcz4_4 : w3.cell? ⟨gb161, 4, none⟩ = some (.bool a0_4) := (blk_cell BK161.out 4).trans rfl; have hcz4_5 : w3.cell? ⟨gb161, 5, none⟩ = some (.bool a0_5) := (blk_cell BK161.out 5).trans rfl; have hcz4_6 : w3.cell? ⟨gb161, 6, none⟩ = some (.bool a0_6) := (blk_cell BK161.out 6).trans rfl; have hcz4_7 : w3.cell? ⟨gb161, 7, none⟩ = some (.bool a0_7) := (blk_cell BK161.out 7).trans rfl; have hcz4_8 : w3.cell? ⟨gb161, 8, none⟩ = some (.int .i64 a0_8) := (blk_cell BK161.out 8).trans rfl; have hfz4_0 := blk_frozen BK161.out 0; have hfz4_1 := blk_frozen BK161.out 1; have hfz4_2 := blk_frozen BK161.out 2; have hfz4_3 := blk_frozen BK161.out 3; have hfz4_4 := blk_frozen BK161.out 4; have hfz4_5 := blk_frozen BK161.out 5; have hfz4_6 := blk_frozen BK161.out 6; have hfz4_7 := blk_frozen BK161.out 7; have hfz4_8 := blk_frozen BK161.out 8))
  go_ret
  exact ⟨by first | rfl | (simp [errW_none, errW_some] <;> rfl) | (simp [*, errW_none, errW_some] <;> rfl), bh_ HB⟩
 ·replace c2 := Bool.eq_false_iff.mpr c2
  subst c2
  have H1 : (some a0_5) = some r := by rw [if_neg (show ¬ (false = true) by decide)] at H; exact H
  clear H
  have H := H1
  clear H1
  obtain rfl := Option.some.inj H
  go_enter Tryz.func65, Tryz.ntmps65
  go_wp2_with (first | ((with_reducible refine gate_dst (N := 1) rfl ?_); refine box_e 1 #[.bool a0_0, .bool a0_1, .bool false, .bool a0_3, .bool a0_4, .bool a0_5, .bool a0_6, .bool a0_7, .int .i64 a0_8] 26 ?_; intro gb161 hg w5 hbox hb; have BK161 := Aside0.mk hbox; have GW161 := bg_ HB hg; have GE161 := bg_ HB hg; replace HB := bs_ HB hb; clear hb hbox hg; have hcz6_0 : w5.cell? ⟨gb161, 0, none⟩ = some (.bool a0_0) := (blk_cell BK161.out 0).trans rfl; have hcz6_1 : w5.cell? ⟨gb161, 1, none⟩ = some (.bool a0_1) := (blk_cell BK161.out 1).trans rfl; have hcz6_2 : w5.cell? ⟨gb161, 2, none⟩ = some (.bool false) := (blk_cell BK161.out 2).trans rfl; have hcz6_3 : w5.cell? ⟨gb161, 3, none⟩ = some (.bool a0_3) := (blk_cell BK161.out 3).trans rfl; have hcz6_4 : w5.cell? ⟨gb161, 4, none⟩ = some (.bool a0_4) := (blk_cell BK161.out 4).trans rfl; have hcz6_5 : w5.cell? ⟨gb161, 5, none⟩ = some (.bool a0_5) := (blk_cell BK161.out 5).trans rfl; have hcz6_6 : w5.cell? ⟨gb161, 6, none⟩ = some (.bool a0_6) := (blk_cell BK161.out 6).trans rfl; have hcz6_7 : w5.cell? ⟨gb161, 7, none⟩ = some (.bool a0_7) := (blk_cell BK161.out 7).trans rfl; have hcz6_8 : w5.cell? ⟨gb161, 8, none⟩ = some (.int .i64 a0_8) := (blk_cell BK161.out 8).trans rfl; have hfz6_0 := blk_frozen BK161.out 0; have hfz6_1 := blk_frozen BK161.out 1; have hfz6_2 := blk_frozen BK161.out 2; have hfz6_3 := blk_frozen BK161.out 3; have hfz6_4 := blk_frozen BK161.out 4; have hfz6_5 := blk_frozen BK161.out 5; have hfz6_6 := blk_frozen BK161.out 6; have hfz6_7 := blk_frozen BK161.out 7; have hfz6_8 := blk_frozen BK161.out 8))
  go_ret
  exact ⟨by first | rfl | (simp [errW_none, errW_some] <;> rfl) | (simp [*, errW_none, errW_some] <;> rfl), bh_ HB⟩
def conv_two.l0 : Nat → Int → List Bool → Int → Int → Option (Bool)
 | 0, _, _, _, _ => none
 | k + 1, x3, x6, x7, x8 => if x8 < x7 then (if 0 ≤ x8 then (if x8 < (x6.length : Int) then (if rdOf false x6 x8 = true then (conv_two.l0 k (wrap64 (x3 + 1)) x6 x7 (wrap64 (x8 + 1))) else (conv_two.l0 k x3 x6 x7 (wrap64 (x8 + 1)))) else (none)) else (none)) else (some (decide (x3 > 1)))
def conv_two.f (k : Nat) (l0 : List Bool) : Option (Bool) := conv_two.l0 k 0 l0 (l0.length : Int) 0
theorem conv_two.mono_l : ∀ k, (∀ y0 y1 y2 y3, LeO (conv_two.l0 k y0 y1 y2 y3) (conv_two.l0 (k + 1) y0 y1 y2 y3))
 | 0 => fun _ _ _ _ r h => by simp [conv_two.l0] at h
 | k + 1 => by
  have ih0 := conv_two.mono_l k
  ·intro y0 y1 y2 y3
   unfold conv_two.l0
   repeat' first
   | (with_reducible exact ih0 _ _ _ _)
   | (with_reducible exact LeO.refl _)
   | (with_reducible exact LeO.none _)
   | (with_reducible refine LeO.ite ?_ ?_)
   | (with_reducible refine LeO.bind ?_ (fun _ => ?_))
   | refine LeO.bind ?_ (fun _ => ?_)
theorem conv_two.mono : ∀ a0 k, LeO (conv_two.f k a0) (conv_two.f (k + 1) a0) := by
 intro a0 k
 have ih0 := conv_two.mono_l k
 unfold conv_two.f
 repeat' first
   | (with_reducible exact ih0 _ _ _ _)
   | (with_reducible exact LeO.refl _)
   | (with_reducible exact LeO.none _)
   | (with_reducible refine LeO.ite ?_ ?_)
   | (with_reducible refine LeO.bind ?_ (fun _ => ?_))
   | refine LeO.bind ?_ (fun _ => ?_)
set_option maxHeartbeats 8000000 in
set_option maxRecDepth 100000 in
theorem conv_two.calls (k : Nat) (A0 : Option Addr) (c0 : Nat) (l0 : List Bool) (r : Bool) (w : World) (hr0 : Kd.C Kd.bool w A0 l0.length l0) (hc0 : l0.length ≤ c0) (h : conv_two.f k l0 = some r) :
  Calls Tryz.prog 66 #[.slice A0 l0.length c0] w fun e w' => e = .returned (.bool r) ∧ Drawn0 w w' := by
 have HR0 := Aside0.mk hr0
 have HC0 := Aside0.mk hc0
 clear hr0 hc0
 have H : (conv_two.l0 k 0 l0 (l0.length : Int) 0) = some r := h
 clear h
 have H' := Aside0.mk H
 clear H
 go_enter Tryz.func66, Tryz.ntmps66
 go_wp2
 go_loopg [3, 8] k (fun kq v3 v8 w' => ∃ (x3_1 x8_1 : Int), v3 = .int .i64 x3_1 ∧ v8 = .int .i64 x8_1 ∧ Aside0 (conv_two.l0 kq x3_1 l0 (l0.length : Int) x8_1 = some r) ∧ Aside0 (kq ≤ k) ∧ Drawn0 w w')
 case atStart => exact ⟨(0), (0), (by first | rfl | (simp; done) | (simp [*]; done)), (by first | rfl | (simp; done) | (simp [*]; done)), H', ⟨Nat.le_refl _⟩, by repeat (first | exact Drawn0.refl _ | apply Drawn0.step)⟩
 case round =>
  clear H'
  obtain ⟨x3_1, x8_1, rfl, rfl, HA, HK1, ⟨m1, rfl⟩⟩ := hrel
  cases gk with
  | zero => exact absurd HA.out (by simp [conv_two.l0])
  | succ k1 =>
   have H := HA.out
   clear HA
   simp only [conv_two.l0] at H
   by_cases c2 : x8_1 < (l0.length : Int)
   ·rw [if_pos c2] at H
    have c2b0 : decide (x8_1 < (l0.length : Int)) = true := decide_eq_true c2
    clear c2
    by_cases c3 : 0 ≤ x8_1
    ·rw [if_pos c3] at H
     have c3b0 : decide (0 ≤ x8_1) = true := decide_eq_true c3
     clear c3
     by_cases c4 : x8_1 < (l0.length : Int)
     ·rw [if_pos c4] at H
      have c4b0 : decide (x8_1 < (l0.length : Int)) = true := decide_eq_true c4
      clear c4
      obtain ⟨bq5, hbq5⟩ : ∃ b_ : Bool, b_ = (rdOf false l0 x8_1) := ⟨_, rfl⟩
      replace H : (if bq5 = true then (conv_two.l0 k1 (wrap64 (x3_1 + 1)) l0 (l0.length : Int) (wrap64 (x8_1 + 1))) else (conv_two.l0 k1 x3_1 l0 (l0.length : Int) (wrap64 (x8_1 + 1)))) = some r := by rw [← hbq5] at H; exact H
      have Nbq5 := Aside0.mk hbq5
      clear hbq5
      by_cases c6 : bq5 = true
      ·subst c6
       have H1 := H; rw [if_pos rfl] at H1
       clear H
       have H := H1
       clear H1
       have H' := Aside0.mk H
       clear H
       have p162 : 0 ≤ (x8_1 : Int) := of_decide_eq_true (by first | (with_reducible assumption) | assumption)
       have q162 : x8_1 < (l0.length : Int) := of_decide_eq_true (by first | (with_reducible assumption) | assumption)
       obtain ⟨ad162, e162, hx162_0⟩ := Kd.at_bool HR0.out x8_1 p162 q162
       (try rw [← Nbq5.out] at hx162_0)
       cases e162
       replace p162 := eq_true p162
       replace q162 := eq_true q162
       go_wp2
       go_roundg k1
       case measure => have := HK1.out; omega
       case rel => exact ⟨(wrap64 (x3_1 + 1)), (wrap64 (x8_1 + 1)), (by first | rfl | (simp; done) | (simp [*]; done)), (by first | rfl | (simp; done) | (simp [*]; done)), H', ⟨by have := HK1.out; omega⟩, by repeat (first | exact Drawn0.refl _ | apply Drawn0.step)⟩
      ·replace c6 := Bool.eq_false_iff.mpr c6
       subst c6
       have H1 : (conv_two.l0 k1 x3_1 l0 (l0.length : Int) (wrap64 (x8_1 + 1))) = some r := by rw [if_neg (show ¬ (false = true) by decide)] at H; exact H
       clear H
       have H := H1
       clear H1
       have H' := Aside0.mk H
       clear H
       have p162 : 0 ≤ (x8_1 : Int) := of_decide_eq_true (by first | (with_reducible assumption) | assumption)
       have q162 : x8_1 < (l0.length : Int) := of_decide_eq_true (by first | (with_reducible assumption) | assumption)
       obtain ⟨ad162, e162, hx162_0⟩ := Kd.at_bool HR0.out x8_1 p162 q162
       (try rw [← Nbq5.out] at hx162_0)
       cases e162
       replace p162 := eq_true p162
       replace q162 := eq_true q162
       go_wp2
       go_roundg k1
       case measure => have := HK1.out; omega
       case rel => exact ⟨(x3_1), (wrap64 (x8_1 + 1)), (by first | rfl | (simp; done) | (simp [*]; done)), (by first | rfl | (simp; done) | (simp [*]; done)), H', ⟨by have := HK1.out; omega⟩, by repeat (first | exact Drawn0.refl _ | apply Drawn0.step)⟩
     ·rw [if_neg c4] at H
      exact absurd H (by simp)
    ·rw [if_neg c3] at H
     exact absurd H (by simp)
   ·rw [if_neg c2] at H
    have c2b0 : decide (x8_1 < (l0.length : Int)) = false := decide_eq_false c2
    clear c2
    obtain rfl := Option.some.inj H
    go_wp2
    go_ret
    exact ⟨by first | rfl | (simp; done) | (simp [*]; done), by repeat (first | exact Drawn0.refl _ | apply Drawn0.step)⟩
end Go.Proofs.YtbmhfnncagncmaaGreatDoor.P
