/- Laid by a program of this session's own (wip/wprint.py, over the kit's print.py): functions of the given program as plain Lean functions, and that the program's calls come to their answers. -/
import Derived.Test.YtbmhfnncagncmaaDoorPx0
import Derived.Test.YtbmhfnncagncmaaDoorPx17
import Derived.Test.YtbmhfnncagncmaaDoorPx18
namespace Go.Proofs.YtbmhfnncagncmaaDoor.P
open Go.RowKit Go.Proofs.YtbmhfnncagncmaaDoorW.PrintWords Go.Proofs.YtbmhfnncagncmaaDoorW.PrintLast Go.Proofs.YtbmhfnncagncmaaDoorW.PrintMore
attribute [local go_sem] max2_int min2_int max_two min_two max_three min_three max_four min_four   -- for this text's walks alone
set_option linter.unusedVariables false
set_option linter.unusedSimpArgs false

/-! ### conv_May: function 33 -/
mutual
def conv_May.j0 : Nat → Int → Bool → Bool → Bool → Bool → Bool → Bool → Bool → Bool → Bool → Int → Option (Bool)
 | 0, _, _, _, _, _, _, _, _, _, _, _ => none
 | k + 1, x3, x9, x163000, x163001, x163002, x163003, x163004, x163005, x163006, x163007, x163008 => if x9 = true then (conv_May.j1 k 1 x163000 x163001 x163002 x163003 x163004 x163005 x163006 x163007 x163008) else (conv_May.j1 k x3 x163000 x163001 x163002 x163003 x163004 x163005 x163006 x163007 x163008)
def conv_May.j1 : Nat → Int → Bool → Bool → Bool → Bool → Bool → Bool → Bool → Bool → Int → Option (Bool)
 | 0, _, _, _, _, _, _, _, _, _, _ => none
 | k + 1, x3, x163000, x163001, x163002, x163003, x163004, x163005, x163006, x163007, x163008 => (conv_two.f k (([x163005, x163006, x163007] : List Bool))).bind fun t168 => (if t168 = true then (some false) else ((conv_two.f k (([x163003, x163004] : List Bool))).bind fun t172 => (if t172 = true then (some false) else ((conv_blocks.f x163000 x163001 x163002 x163003 x163004 x163005 x163006 x163007 x163008).bind fun t173 => ((conv_unblocks.f x163000 x163001 x163002 x163003 x163004 x163005 x163006 x163007 x163008).bind fun t174 => ((conv_two.f k (([t173, t174] : List Bool))).bind fun t178 => (if t178 = true then (some false) else (if x163008 ≥ x3 then (some (decide (x163008 ≤ 4096))) else (some false)))))))))
end
def conv_May.f (k : Nat) (a0_0 : Bool) (a0_1 : Bool) (a0_2 : Bool) (a0_3 : Bool) (a0_4 : Bool) (a0_5 : Bool) (a0_6 : Bool) (a0_7 : Bool) (a0_8 : Int) : Option (Bool) := (conv_blocks.f a0_0 a0_1 a0_2 a0_3 a0_4 a0_5 a0_6 a0_7 a0_8).bind fun t163 => (if t163 = true then (conv_May.j0 k 0 true a0_0 a0_1 a0_2 a0_3 a0_4 a0_5 a0_6 a0_7 a0_8) else ((conv_unblocks.f a0_0 a0_1 a0_2 a0_3 a0_4 a0_5 a0_6 a0_7 a0_8).bind fun t164 => (conv_May.j0 k 0 t164 a0_0 a0_1 a0_2 a0_3 a0_4 a0_5 a0_6 a0_7 a0_8)))
theorem conv_May.mono_l : ∀ k, (∀ y0 y1 y2 y3 y4 y5 y6 y7 y8 y9 y10, LeO (conv_May.j0 k y0 y1 y2 y3 y4 y5 y6 y7 y8 y9 y10) (conv_May.j0 (k + 1) y0 y1 y2 y3 y4 y5 y6 y7 y8 y9 y10)) ∧ (∀ y0 y1 y2 y3 y4 y5 y6 y7 y8 y9, LeO (conv_May.j1 k y0 y1 y2 y3 y4 y5 y6 y7 y8 y9) (conv_May.j1 (k + 1) y0 y1 y2 y3 y4 y5 y6 y7 y8 y9))
 | 0 => ⟨fun _ _ _ _ _ _ _ _ _ _ _ r h => by simp [conv_May.j0] at h, fun _ _ _ _ _ _ _ _ _ _ r h => by simp [conv_May.j1] at h⟩
 | k + 1 => by
  obtain ⟨ih0, ih1⟩ := conv_May.mono_l k
  refine ⟨?_, ?_⟩
  ·intro y0 y1 y2 y3 y4 y5 y6 y7 y8 y9 y10
   unfold conv_May.j0
   repeat' first
   | (with_reducible exact ih0 _ _ _ _ _ _ _ _ _ _ _)
   | (with_reducible exact ih1 _ _ _ _ _ _ _ _ _ _)
   | (with_reducible exact conv_two.mono _ _)
   | (with_reducible exact LeO.refl _)
   | (with_reducible exact LeO.none _)
   | (with_reducible refine LeO.ite ?_ ?_)
   | (with_reducible refine LeO.bind ?_ (fun _ => ?_))
   | exact ih0 _ _ _ _ _ _ _ _ _ _ _
   | exact ih1 _ _ _ _ _ _ _ _ _ _
   | exact conv_two.mono _ _
   | exact LeO.none _
   | refine LeO.ite ?_ ?_
   | refine LeO.bind ?_ (fun _ => ?_)
  ·intro y0 y1 y2 y3 y4 y5 y6 y7 y8 y9
   unfold conv_May.j1
   repeat' first
   | (with_reducible exact ih0 _ _ _ _ _ _ _ _ _ _ _)
   | (with_reducible exact ih1 _ _ _ _ _ _ _ _ _ _)
   | (with_reducible exact conv_two.mono _ _)
   | (with_reducible exact LeO.refl _)
   | (with_reducible exact LeO.none _)
   | (with_reducible refine LeO.ite ?_ ?_)
   | (with_reducible refine LeO.bind ?_ (fun _ => ?_))
   | exact ih0 _ _ _ _ _ _ _ _ _ _ _
   | exact ih1 _ _ _ _ _ _ _ _ _ _
   | exact conv_two.mono _ _
   | exact LeO.none _
   | refine LeO.ite ?_ ?_
   | refine LeO.bind ?_ (fun _ => ?_)
theorem conv_May.mono : ∀ a0 a1 a2 a3 a4 a5 a6 a7 a8 k, LeO (conv_May.f k a0 a1 a2 a3 a4 a5 a6 a7 a8) (conv_May.f (k + 1) a0 a1 a2 a3 a4 a5 a6 a7 a8) := by
 intro a0 a1 a2 a3 a4 a5 a6 a7 a8 k
 obtain ⟨ih0, ih1⟩ := conv_May.mono_l k
 unfold conv_May.f
 repeat' first
   | (with_reducible exact ih0 _ _ _ _ _ _ _ _ _ _ _)
   | (with_reducible exact ih1 _ _ _ _ _ _ _ _ _ _)
   | (with_reducible exact conv_two.mono _ _)
   | (with_reducible exact LeO.refl _)
   | (with_reducible exact LeO.none _)
   | (with_reducible refine LeO.ite ?_ ?_)
   | (with_reducible refine LeO.bind ?_ (fun _ => ?_))
   | exact ih0 _ _ _ _ _ _ _ _ _ _ _
   | exact ih1 _ _ _ _ _ _ _ _ _ _
   | exact conv_two.mono _ _
   | exact LeO.none _
   | refine LeO.ite ?_ ?_
   | refine LeO.bind ?_ (fun _ => ?_)
def conv_May.T4 : Bool × List (List Nat × List Nat) := (true, [([], []), ([0], [0]), ([], []), ([2], [2]), ([], []), ([4], [4]), ([1, 3, 5], [1, 3, 5]), ([6], [6]), ([7], [7]), ([8, 7], [8]), ([9], [9]), ([10, 9], [9, 10]), ([9], [9]), ([12, 9], [9, 12]), ([11, 13, 9], [9, 11, 13]), ([14, 9, 9], [9, 14]), ([15, 9], [9, 15]), ([9, 16], [9, 16]), ([17, 15], [17]), ([18], [18]), ([19, 18, 18], [18, 19]), ([18], [18]), ([21, 20, 18], [18, 21]), ([20, 22, 18], [18, 20, 22]), ([23, 22, 18], [18, 23]), ([24, 18], [18, 24]), ([18, 25], [18, 25]), ([26, 24], [26]), ([27], [27]), ([28, 27], [27, 28]), ([27], [27]), ([29, 30, 27], [27, 29, 30]), ([27, 31], [27, 31]), ([32, 27], [32]), ([33], [33]), ([34, 33], [33, 34]), ([35, 33], [33, 35]), ([33, 36], [33, 36]), ([37, 33, 0, 1, 2, 3, 4, 5, 6, 7, 8, 9, 10, 11, 12, 13, 14, 15, 16, 17, 18, 19, 20, 21, 22, 23, 24, 25, 26, 27, 28, 29, 30, 31, 32, 33, 34, 35, 36, 37], [37])])
def conv_May.B4 : List Nat := [0, 1, 0, 4, 0, 16, 63, 127, 255, 511, 1023, 2047, 1023, 5119, 16383, 32767, 65535, 131071, 262143, 524287, 1048575, 524287, 4194303, 8388607, 16777215, 33554431, 67108863, 134217727, 268435455, 536870911, 268435455, 2147483647, 4294967295, 8589934591, 17179869183, 34359738367, 68719476735, 137438953471, 274877906943]
theorem conv_May.tab4 : rtab .any (opsOf Tryd.f33 4) = conv_May.T4 := by kernel_rfl
theorem conv_May.bits4 : waitsOk conv_May.T4.2 conv_May.B4 = true := by kernel_rfl
set_option maxHeartbeats 8000000 in
set_option maxRecDepth 100000 in
theorem conv_May.calls (k : Nat) (a0_0 : Bool) (a0_1 : Bool) (a0_2 : Bool) (a0_3 : Bool) (a0_4 : Bool) (a0_5 : Bool) (a0_6 : Bool) (a0_7 : Bool) (a0_8 : Int) (r : Bool) (w : World) (h : conv_May.f k a0_0 a0_1 a0_2 a0_3 a0_4 a0_5 a0_6 a0_7 a0_8 = some r) :
  Calls Tryd.prog 33 #[.agg #[.bool a0_0, .bool a0_1, .bool a0_2, .bool a0_3, .bool a0_4, .bool a0_5, .bool a0_6, .bool a0_7, .int .i64 a0_8]] w fun e w' => e = .returned (.bool r) ∧ Below w.heap.size w w' := by
 have hu23 := Tryd.underlying23
 have HB := Aside0.mk (Below.refl w.heap.size w)
 have H : ((conv_blocks.f a0_0 a0_1 a0_2 a0_3 a0_4 a0_5 a0_6 a0_7 a0_8).bind fun t163 => (if t163 = true then (conv_May.j0 k 0 true a0_0 a0_1 a0_2 a0_3 a0_4 a0_5 a0_6 a0_7 a0_8) else ((conv_unblocks.f a0_0 a0_1 a0_2 a0_3 a0_4 a0_5 a0_6 a0_7 a0_8).bind fun t164 => (conv_May.j0 k 0 t164 a0_0 a0_1 a0_2 a0_3 a0_4 a0_5 a0_6 a0_7 a0_8)))) = some r := h
 clear h
 have HC2 := Aside0.mk H
 clear H
 go_enter Tryd.func33, Tryd.ntmps33
 go_upto_region 2 with (first | ((with_reducible refine gate_dst (N := 1) rfl ?_); (try (refine gate_guard (by rfl) ?_; dsimp only)); refine box_e 1 #[.bool a0_0, .bool a0_1, .bool a0_2, .bool a0_3, .bool a0_4, .bool a0_5, .bool a0_6, .bool a0_7, .int .i64 a0_8] 23 ?_; intro gb162 hg w3 hbox hb; have BK162 := Aside0.mk hbox; have GW162 := bg_ HB hg; have GE162 := bg_ HB hg; replace HB := bs_ HB hb; clear hb hbox hg))
 (try simp only [Act.put, List.setIfInBounds_toArray, List.set_cons_zero, List.set_cons_succ])
 go_cut [9] (fun v9 wc => ∃ (kq : Nat) (x9_1 : Bool), v9 = .bool x9_1 ∧ Aside0 (conv_May.j0 kq 0 x9_1 a0_0 a0_1 a0_2 a0_3 a0_4 a0_5 a0_6 a0_7 a0_8 = some r) ∧ Aside0 (kq ≤ k) ∧ Aside0 (wc.heap[gb162]? = some (.cells #[.bool a0_0, .bool a0_1, .bool a0_2, .bool a0_3, .bool a0_4, .bool a0_5, .bool a0_6, .bool a0_7, .int .i64 a0_8] 23 (0, 0))) ∧ Aside0 (Below w.heap.size w wc))
 case first =>
  have H := HC2.out
  clear HC2
  replace H := Option.bind_eq_some_iff.mp H
  obtain ⟨t163, A40, H⟩ := H
  replace H : (if t163 = true then (conv_May.j0 k 0 true a0_0 a0_1 a0_2 a0_3 a0_4 a0_5 a0_6 a0_7 a0_8) else ((conv_unblocks.f a0_0 a0_1 a0_2 a0_3 a0_4 a0_5 a0_6 a0_7 a0_8).bind fun t164 => (conv_May.j0 k 0 t164 a0_0 a0_1 a0_2 a0_3 a0_4 a0_5 a0_6 a0_7 a0_8))) = some r := H
  have A4 := Aside0.mk A40
  clear A40
  by_cases c5 : t163 = true
  ·subst c5
   have H1 : (conv_May.j0 k 0 true a0_0 a0_1 a0_2 a0_3 a0_4 a0_5 a0_6 a0_7 a0_8) = some r := by rw [if_pos rfl] at H; exact H
   clear H
   have H := H1
   clear H1
   have H' := Aside0.mk H
   clear H
   have hcz6_0 : w3.cell? ⟨gb162, 0, none⟩ = some (.bool a0_0) := (blk_cell BK162.out 0).trans rfl
   have hcz6_1 : w3.cell? ⟨gb162, 1, none⟩ = some (.bool a0_1) := (blk_cell BK162.out 1).trans rfl
   have hcz6_2 : w3.cell? ⟨gb162, 2, none⟩ = some (.bool a0_2) := (blk_cell BK162.out 2).trans rfl
   have hcz6_3 : w3.cell? ⟨gb162, 3, none⟩ = some (.bool a0_3) := (blk_cell BK162.out 3).trans rfl
   have hcz6_4 : w3.cell? ⟨gb162, 4, none⟩ = some (.bool a0_4) := (blk_cell BK162.out 4).trans rfl
   have hcz6_5 : w3.cell? ⟨gb162, 5, none⟩ = some (.bool a0_5) := (blk_cell BK162.out 5).trans rfl
   have hcz6_6 : w3.cell? ⟨gb162, 6, none⟩ = some (.bool a0_6) := (blk_cell BK162.out 6).trans rfl
   have hcz6_7 : w3.cell? ⟨gb162, 7, none⟩ = some (.bool a0_7) := (blk_cell BK162.out 7).trans rfl
   have hcz6_8 : w3.cell? ⟨gb162, 8, none⟩ = some (.int .i64 a0_8) := (blk_cell BK162.out 8).trans rfl
   have hfz6_0 := blk_frozen BK162.out 0
   have hfz6_1 := blk_frozen BK162.out 1
   have hfz6_2 := blk_frozen BK162.out 2
   have hfz6_3 := blk_frozen BK162.out 3
   have hfz6_4 := blk_frozen BK162.out 4
   have hfz6_5 := blk_frozen BK162.out 5
   have hfz6_6 := blk_frozen BK162.out 6
   have hfz6_7 := blk_frozen BK162.out 7
   have hfz6_8 := blk_frozen BK162.out 8
   go_wp2_with (first | ((with_reducible refine gate_callee (f := 44) rfl ?_); refine gl_ (some 5) rfl rfl Tryd.func44 (by kernel_rfl) rfl #[.agg #[.bool a0_0, .bool a0_1, .bool a0_2, .bool a0_3, .bool a0_4, .bool a0_5, .bool a0_6, .bool a0_7, .int .i64 a0_8]] rfl ?_; (with_reducible refine (conv_blocks.calls a0_0 a0_1 a0_2 a0_3 a0_4 a0_5 a0_6 a0_7 a0_8 true _ A4.out).mono ?_); rintro e w7 ⟨rfl, hb⟩; refine ⟨_, rfl, ?_⟩; replace BK162 := bb_ BK162 hb; replace HB := bs_ HB hb; (try clear hb)))
   go_meet
   case rel => exact ⟨_, (true), (by first | rfl | (simp; done) | (simp [*]; done)), H', ⟨by first | omega | exact Nat.le_refl _⟩, ⟨bq_ BK162⟩, ⟨bh_ HB⟩⟩
  ·replace c5 := Bool.eq_false_iff.mpr c5
   subst c5
   have H1 : ((conv_unblocks.f a0_0 a0_1 a0_2 a0_3 a0_4 a0_5 a0_6 a0_7 a0_8).bind fun t164 => (conv_May.j0 k 0 t164 a0_0 a0_1 a0_2 a0_3 a0_4 a0_5 a0_6 a0_7 a0_8)) = some r := by rw [if_neg (show ¬ (false = true) by decide)] at H; exact H
   clear H
   have H := H1
   clear H1
   replace H := Option.bind_eq_some_iff.mp H
   obtain ⟨t164, A80, H⟩ := H
   replace H : (conv_May.j0 k 0 t164 a0_0 a0_1 a0_2 a0_3 a0_4 a0_5 a0_6 a0_7 a0_8) = some r := H
   have A8 := Aside0.mk A80
   clear A80
   have H' := Aside0.mk H
   clear H
   have hcz9_0 : w3.cell? ⟨gb162, 0, none⟩ = some (.bool a0_0) := (blk_cell BK162.out 0).trans rfl
   have hcz9_1 : w3.cell? ⟨gb162, 1, none⟩ = some (.bool a0_1) := (blk_cell BK162.out 1).trans rfl
   have hcz9_2 : w3.cell? ⟨gb162, 2, none⟩ = some (.bool a0_2) := (blk_cell BK162.out 2).trans rfl
   have hcz9_3 : w3.cell? ⟨gb162, 3, none⟩ = some (.bool a0_3) := (blk_cell BK162.out 3).trans rfl
   have hcz9_4 : w3.cell? ⟨gb162, 4, none⟩ = some (.bool a0_4) := (blk_cell BK162.out 4).trans rfl
   have hcz9_5 : w3.cell? ⟨gb162, 5, none⟩ = some (.bool a0_5) := (blk_cell BK162.out 5).trans rfl
   have hcz9_6 : w3.cell? ⟨gb162, 6, none⟩ = some (.bool a0_6) := (blk_cell BK162.out 6).trans rfl
   have hcz9_7 : w3.cell? ⟨gb162, 7, none⟩ = some (.bool a0_7) := (blk_cell BK162.out 7).trans rfl
   have hcz9_8 : w3.cell? ⟨gb162, 8, none⟩ = some (.int .i64 a0_8) := (blk_cell BK162.out 8).trans rfl
   have hfz9_0 := blk_frozen BK162.out 0
   have hfz9_1 := blk_frozen BK162.out 1
   have hfz9_2 := blk_frozen BK162.out 2
   have hfz9_3 := blk_frozen BK162.out 3
   have hfz9_4 := blk_frozen BK162.out 4
   have hfz9_5 := blk_frozen BK162.out 5
   have hfz9_6 := blk_frozen BK162.out 6
   have hfz9_7 := blk_frozen BK162.out 7
   have hfz9_8 := blk_frozen BK162.out 8
   go_wp2_with (first | ((with_reducible refine gate_callee (f := 44) rfl ?_); refine gl_ (some 5) rfl rfl Tryd.func44 (by kernel_rfl) rfl #[.agg #[.bool a0_0, .bool a0_1, .bool a0_2, .bool a0_3, .bool a0_4, .bool a0_5, .bool a0_6, .bool a0_7, .int .i64 a0_8]] rfl ?_; (with_reducible refine (conv_blocks.calls a0_0 a0_1 a0_2 a0_3 a0_4 a0_5 a0_6 a0_7 a0_8 false _ A4.out).mono ?_); rintro e w10 ⟨rfl, hb⟩; refine ⟨_, rfl, ?_⟩; replace BK162 := bb_ BK162 hb; replace HB := bs_ HB hb; (try clear hb); have hcz11_0 : w10.cell? ⟨gb162, 0, none⟩ = some (.bool a0_0) := (blk_cell BK162.out 0).trans rfl; have hcz11_1 : w10.cell? ⟨gb162, 1, none⟩ = some (.bool a0_1) := (blk_cell BK162.out 1).trans rfl; have hcz11_2 : w10.cell? ⟨gb162, 2, none⟩ = some (.bool a0_2) := (blk_cell BK162.out 2).trans rfl; have hcz11_3 : w10.cell? ⟨gb162, 3, none⟩ = some (.bool a0_3) := (blk_cell BK162.out 3).trans rfl; have hcz11_4 : w10.cell? ⟨gb162, 4, none⟩ = some (.bool a0_4) := (blk_cell BK162.out 4).trans rfl; have hcz11_5 : w10.cell? ⟨gb162, 5, none⟩ = some (.bool a0_5) := (blk_cell BK162.out 5).trans rfl; have hcz11_6 : w10.cell? ⟨gb162, 6, none⟩ = some (.bool a0_6) := (blk_cell BK162.out 6).trans rfl; have hcz11_7 : w10.cell? ⟨gb162, 7, none⟩ = some (.bool a0_7) := (blk_cell BK162.out 7).trans rfl; have hcz11_8 : w10.cell? ⟨gb162, 8, none⟩ = some (.int .i64 a0_8) := (blk_cell BK162.out 8).trans rfl; have hfz11_0 := blk_frozen BK162.out 0; have hfz11_1 := blk_frozen BK162.out 1; have hfz11_2 := blk_frozen BK162.out 2; have hfz11_3 := blk_frozen BK162.out 3; have hfz11_4 := blk_frozen BK162.out 4; have hfz11_5 := blk_frozen BK162.out 5; have hfz11_6 := blk_frozen BK162.out 6; have hfz11_7 := blk_frozen BK162.out 7; have hfz11_8 := blk_frozen BK162.out 8) | (go_at_call 45; (with_reducible refine (conv_unblocks.calls a0_0 a0_1 a0_2 a0_3 a0_4 a0_5 a0_6 a0_7 a0_8 t164 _ A8.out).mono ?_); rintro e w12 ⟨rfl, hb⟩; replace BK162 := bb_ BK162 hb; replace HB := bs_ HB hb; (try clear hb)))
   go_meet
   case rel => exact ⟨_, (t164), (by first | rfl | (simp; done) | (simp [*]; done)), H', ⟨by first | omega | exact Nat.le_refl _⟩, ⟨bq_ BK162⟩, ⟨bh_ HB⟩⟩
 case rest =>
  clear HC2
  try clear p2
  try clear c3
  try clear c4
  try clear c5
  try clear hcz11_0 hcz11_1 hcz11_2 hcz11_3 hcz11_4 hcz11_5 hcz11_6 hcz11_7 hcz11_8
  try clear hcz6_0 hcz6_1 hcz6_2 hcz6_3 hcz6_4 hcz6_5 hcz6_6 hcz6_7 hcz6_8
  try clear hcz9_0 hcz9_1 hcz9_2 hcz9_3 hcz9_4 hcz9_5 hcz9_6 hcz9_7 hcz9_8
  try clear hfz11_0 hfz11_1 hfz11_2 hfz11_3 hfz11_4 hfz11_5 hfz11_6 hfz11_7 hfz11_8
  try clear hfz6_0 hfz6_1 hfz6_2 hfz6_3 hfz6_4 hfz6_5 hfz6_6 hfz6_7 hfz6_8
  try clear hfz9_0 hfz9_1 hfz9_2 hfz9_3 hfz9_4 hfz9_5 hfz9_6 hfz9_7 hfz9_8
  obtain ⟨kq, x9_1, rfl, HA, HJ1, BK162, HB⟩ := hcut
  cases kq with
  | zero => exact absurd HA.out (by simp [conv_May.j0])
  | succ kj1 =>
   have H := HA.out
   clear HA
   simp only [conv_May.j0] at H
   have HC13 := Aside0.mk H
   clear H
   go_upto_if 9 with (fail)
   go_cut [3] (fun v3 wc => ∃ (kq : Nat) (x3_12 : Int), v3 = .int .i64 x3_12 ∧ Aside0 (conv_May.j1 kq x3_12 a0_0 a0_1 a0_2 a0_3 a0_4 a0_5 a0_6 a0_7 a0_8 = some r) ∧ Aside0 (kq ≤ kj1) ∧ Aside0 (wc.heap[gb162]? = some (.cells #[.bool a0_0, .bool a0_1, .bool a0_2, .bool a0_3, .bool a0_4, .bool a0_5, .bool a0_6, .bool a0_7, .int .i64 a0_8] 23 (0, 0))) ∧ Aside0 (Below w.heap.size w wc))
   case first =>
    have H := HC13.out
    clear HC13
    by_cases c14 : x9_1 = true
    ·subst c14
     have H1 : (conv_May.j1 kj1 1 a0_0 a0_1 a0_2 a0_3 a0_4 a0_5 a0_6 a0_7 a0_8) = some r := by rw [if_pos rfl] at H; exact H
     clear H
     have H := H1
     clear H1
     have H' := Aside0.mk H
     clear H
     go_wp2
     go_meet
     case rel => exact ⟨_, (1), (by first | rfl | (simp; done) | (simp [*]; done)), H', ⟨by have := HJ1.out; first | omega | exact Nat.le_refl _⟩, ⟨bq_ BK162⟩, ⟨bh_ HB⟩⟩
    ·replace c14 := Bool.eq_false_iff.mpr c14
     subst c14
     have H1 : (conv_May.j1 kj1 0 a0_0 a0_1 a0_2 a0_3 a0_4 a0_5 a0_6 a0_7 a0_8) = some r := by rw [if_neg (show ¬ (false = true) by decide)] at H; exact H
     clear H
     have H := H1
     clear H1
     have H' := Aside0.mk H
     clear H
     go_wp2
     go_meet
     case rel => exact ⟨_, (0), (by first | rfl | (simp; done) | (simp [*]; done)), H', ⟨by have := HJ1.out; first | omega | exact Nat.le_refl _⟩, ⟨bq_ BK162⟩, ⟨bh_ HB⟩⟩
   case rest =>
    clear HC13
    try clear c1
    try clear p2
    try clear c3
    try clear c4
    try clear c5
    try clear c14
    try clear hcz11_0 hcz11_1 hcz11_2 hcz11_3 hcz11_4 hcz11_5 hcz11_6 hcz11_7 hcz11_8
    try clear hcz6_0 hcz6_1 hcz6_2 hcz6_3 hcz6_4 hcz6_5 hcz6_6 hcz6_7 hcz6_8
    try clear hcz9_0 hcz9_1 hcz9_2 hcz9_3 hcz9_4 hcz9_5 hcz9_6 hcz9_7 hcz9_8
    try clear hfz11_0 hfz11_1 hfz11_2 hfz11_3 hfz11_4 hfz11_5 hfz11_6 hfz11_7 hfz11_8
    try clear hfz6_0 hfz6_1 hfz6_2 hfz6_3 hfz6_4 hfz6_5 hfz6_6 hfz6_7 hfz6_8
    try clear hfz9_0 hfz9_1 hfz9_2 hfz9_3 hfz9_4 hfz9_5 hfz9_6 hfz9_7 hfz9_8
    try clear p2
    obtain ⟨kq, x3_12, rfl, HA, HJ12, BK162, HB⟩ := hcut
    cases kq with
    | zero => exact absurd HA.out (by simp [conv_May.j1])
    | succ kj12 =>
     have H := HA.out
     clear HA
     simp only [conv_May.j1] at H
     obtain ⟨y165, hy165⟩ : ∃ y_ : List Bool, y_ = (([a0_5, a0_6, a0_7] : List Bool)) := ⟨_, rfl⟩
     replace H : ((conv_two.f kj12 y165).bind fun t168 => (if t168 = true then (some false) else ((conv_two.f kj12 (([a0_3, a0_4] : List Bool))).bind fun t172 => (if t172 = true then (some false) else ((conv_blocks.f a0_0 a0_1 a0_2 a0_3 a0_4 a0_5 a0_6 a0_7 a0_8).bind fun t173 => ((conv_unblocks.f a0_0 a0_1 a0_2 a0_3 a0_4 a0_5 a0_6 a0_7 a0_8).bind fun t174 => ((conv_two.f kj12 (([t173, t174] : List Bool))).bind fun t178 => (if t178 = true then (some false) else (if a0_8 ≥ x3_12 then (some (decide (a0_8 ≤ 4096))) else (some false)))))))))) = some r := by first | (rw [hy165]; with_reducible exact H) | (have H2_ := (Option.bind_some _ _).symm.trans H; rw [hy165]; with_reducible exact H2_) | (have H2_ := (Option.bind_some _ _).symm.trans H; with_reducible exact H2_) | with_reducible exact H | (rw [hy165]; exact H) | exact H
     have Ny165 := Aside0.mk hy165
     clear hy165
     replace H := Option.bind_eq_some_iff.mp H
     obtain ⟨t168, A150, H⟩ := H
     replace H : (if t168 = true then (some false) else ((conv_two.f kj12 (([a0_3, a0_4] : List Bool))).bind fun t172 => (if t172 = true then (some false) else ((conv_blocks.f a0_0 a0_1 a0_2 a0_3 a0_4 a0_5 a0_6 a0_7 a0_8).bind fun t173 => ((conv_unblocks.f a0_0 a0_1 a0_2 a0_3 a0_4 a0_5 a0_6 a0_7 a0_8).bind fun t174 => ((conv_two.f kj12 (([t173, t174] : List Bool))).bind fun t178 => (if t178 = true then (some false) else (if a0_8 ≥ x3_12 then (some (decide (a0_8 ≤ 4096))) else (some false))))))))) = some r := H
     have A15 := Aside0.mk A150
     clear A150
     by_cases c16 : t168 = true
     ·subst c16
      have H1 : (some false) = some r := by rw [if_pos rfl] at H; exact H
      clear H
      have H := H1
      clear H1
      obtain rfl := Option.some.inj H
      try go_wp2
      replace BK162 := Aside0.mk (blk_drew BK162.out)
      replace HB := Aside0.mk (below_drew1 HB.out)
      refine start_ (n := 39) (S := fun w' => w'.cell? ⟨gb162, 0, none⟩ = some (.bool a0_0) ∧ w'.cell? ⟨gb162, 1, none⟩ = some (.bool a0_1) ∧ w'.cell? ⟨gb162, 2, none⟩ = some (.bool a0_2) ∧ w'.cell? ⟨gb162, 3, none⟩ = some (.bool a0_3) ∧ w'.cell? ⟨gb162, 4, none⟩ = some (.bool a0_4) ∧ w'.cell? ⟨gb162, 5, none⟩ = some (.bool a0_5) ∧ w'.cell? ⟨gb162, 6, none⟩ = some (.bool a0_6) ∧ w'.cell? ⟨gb162, 7, none⟩ = some (.bool a0_7) ∧ w'.cell? ⟨gb162, 8, none⟩ = some (.int .i64 a0_8)) (ds := []) #[false, false, false, false, false, false, false, false, false, false, false, false, false, false, false, false, false, false, false, false, false, false, false, false, false, false, false, false, false, false, false, false, false, false, false, false, false, false, false] (by kernel_rfl) rfl rfl ⟨(blk_cell BK162.out 0).trans rfl, (blk_cell BK162.out 1).trans rfl, (blk_cell BK162.out 2).trans rfl, (blk_cell BK162.out 3).trans rfl, (blk_cell BK162.out 4).trans rfl, (blk_cell BK162.out 5).trans rfl, (blk_cell BK162.out 6).trans rfl, (blk_cell BK162.out 7).trans rfl, (blk_cell BK162.out 8).trans rfl⟩ (fun hHeld => ?_); refine with_tabW conv_May.tab4 conv_May.bits4 (fun HT_ HW_ => ?_)
      generalize wc.drew = w17 at BK162 HB hHeld ⊢
      refine pu_ 0 10 (lb_ 39 1) rfl rfl (ao_ HT_) ?_
      refine pu_ 2 12 (lb_ 39 5) rfl rfl (ao_ HT_) ?_
      refine pu_ 4 14 (lb_ 39 21) rfl rfl (ao_ HT_) ?_
      refine tk_ 1 11 (lb_ 39 23) rfl rfl (take_ofW HT_.out HW_.out (by kernel_rfl)) hHeld ?_
      refine tk_ 3 13 (lb_ 39 31) rfl rfl (take_ofW HT_.out HW_.out (by kernel_rfl)) hHeld ?_
      refine tk_ 5 15 (lb_ 39 63) rfl rfl (take_ofW HT_.out HW_.out (by kernel_rfl)) hHeld ?_
      refine one_ (i := 6) (N := some 16) #[true, true, true, true, true, true, true, false, false, false, false, false, false, false, false, false, false, false, false, false, false, false, false, false, false, false, false, false, false, false, false, false, false, false, false, false, false, false, false] rfl rfl (one_of HT_.out (by kernel_rfl)) (by decide) (fun K hK => ?_)
      refine Kd.R_lit_step Kd.bool _ 4 ?hg (N := 16) ?hd (xs := ([a0_5, a0_6, a0_7] : List Bool)) (inner := [.bool a0_5, .bool a0_6, .bool a0_7]) (ok := fun _ => True) (okp := fun _ => True) ?hr ?hp (fun _ hk => hk) trivial (Below.refl _ _) (Nat.le_refl _) (by simp) ?_; (case hd => rfl); (case hg => rfl); (case hr => first | (go_simp; done) | (go_simp; rfl)); (case hp => exact (Reps.one (show Kd.M Kd.bool _ _ _ a0_5 [.bool a0_5] from rfl) (Reps.one (show Kd.M Kd.bool _ _ _ a0_6 [.bool a0_6] from rfl) (Reps.one (show Kd.M Kd.bool _ _ _ a0_7 [.bool a0_7] from rfl) (Reps.none _ _)))))
      intro v166 w18 ho19 hb hg_ hnew_
      clear hg_ hnew_
      (first | rw [← Ny165.out] at ho19 | (simp only [Int.reduceToNat] at ho19; rw [← Ny165.out] at ho19))
      have HO167 := Aside0.mk (Kd.R_lower ho19 (below_size (bh_ HB)))
      replace BK162 := bb_ BK162 hb
      replace HB := bs_ HB hb
      clear hb ho19
      obtain ⟨Ao20, co20, eo20⟩ := Kd.R_slice HO167.out
      (first | subst eo20 | (injection eo20 with f1_ f2_ f3_; have f4_ := f1_.symm; have f5_ := f3_.symm; clear f1_ f2_ f3_; subst f4_; subst f5_))
      refine hK.out _ _ ⟨(blk_cell BK162.out 0).trans rfl, (blk_cell BK162.out 1).trans rfl, (blk_cell BK162.out 2).trans rfl, (blk_cell BK162.out 3).trans rfl, (blk_cell BK162.out 4).trans rfl, (blk_cell BK162.out 5).trans rfl, (blk_cell BK162.out 6).trans rfl, (blk_cell BK162.out 7).trans rfl, (blk_cell BK162.out 8).trans rfl⟩ (fun hHeld => ?_)
      clear hK K
      refine nm_ 16 ?_
      refine one_ (i := 7) (N := some 17) #[true, true, true, true, true, true, true, true, false, false, false, false, false, false, false, false, false, false, false, false, false, false, false, false, false, false, false, false, false, false, false, false, false, false, false, false, false, false, false] rfl rfl (one_of HT_.out (by kernel_rfl)) (by decide) (fun K hK => ?_)
      refine gq_ Tryd.func46 (by kernel_rfl) rfl #[.slice Ao20 y165.length co20] (by rfl) rfl rfl ?_
      with_reducible refine (conv_two.calls kj12 _ _ y165 true _ ?side1 ?side2 A15.out).mono ?_
      (case side1 => repeat (first | exact (Kd.R_reads' HO167.out).2.2 | (with_reducible refine Kd.C_alloc ?_ _) | (with_reducible refine Kd.C_drewN ?_ _) | (with_reducible refine Kd.C_drew ?_)))
      (case side2 => exact (Kd.R_reads' HO167.out).2.1)
      rintro e w' ⟨rfl, ⟨nd, rfl⟩⟩
      refine ⟨_, rfl, ?_⟩
      refine hK.out _ _ ⟨(blk_cell BK162.out 0).trans rfl, (blk_cell BK162.out 1).trans rfl, (blk_cell BK162.out 2).trans rfl, (blk_cell BK162.out 3).trans rfl, (blk_cell BK162.out 4).trans rfl, (blk_cell BK162.out 5).trans rfl, (blk_cell BK162.out 6).trans rfl, (blk_cell BK162.out 7).trans rfl, (blk_cell BK162.out 8).trans rfl⟩ (fun hHeld => ?_)
      clear hK K
      refine nm_ 17 ?_
      refine pu_ 8 18 (lb_ 39 511) rfl rfl (ao_ HT_) ?_
      refine pu_ 9 19 (lb_ 39 1023) rfl rfl (ao_ HT_) ?_
      refine pd_ 10 20 (lb_ 39 2047) rfl rfl (ao_ HT_) ?_
      refine pd_ 11 21 (lb_ 39 4095) rfl rfl (ao_ HT_) ?_
      refine pd_ 12 22 (lb_ 39 8191) rfl rfl (ao_ HT_) ?_
      refine pd_ 13 23 (lb_ 39 16383) rfl rfl (ao_ HT_) ?_
      refine pd_ 14 24 (lb_ 39 32767) rfl rfl (ao_ HT_) ?_
      refine pd_ 15 25 (lb_ 39 65535) rfl rfl (ao_ HT_) ?_
      refine pd_ 16 26 (lb_ 39 131071) rfl rfl (ao_ HT_) ?_
      refine pu_ 17 27 (lb_ 39 262143) rfl rfl (ao_ HT_) ?_
      refine pu_ 18 28 (lb_ 39 524287) rfl rfl (ao_ HT_) ?_
      refine pd_ 19 29 (lb_ 39 1048575) rfl rfl (ao_ HT_) ?_
      refine pd_ 20 30 (lb_ 39 2097151) rfl rfl (ao_ HT_) ?_
      refine pd_ 21 31 (lb_ 39 4194303) rfl rfl (ao_ HT_) ?_
      refine pd_ 22 32 (lb_ 39 8388607) rfl rfl (ao_ HT_) ?_
      refine pd_ 23 33 (lb_ 39 16777215) rfl rfl (ao_ HT_) ?_
      refine pd_ 24 34 (lb_ 39 33554431) rfl rfl (ao_ HT_) ?_
      refine pd_ 25 35 (lb_ 39 67108863) rfl rfl (ao_ HT_) ?_
      refine pu_ 26 36 (lb_ 39 134217727) rfl rfl (ao_ HT_) ?_
      refine pu_ 27 37 (lb_ 39 268435455) rfl rfl (ao_ HT_) ?_
      refine pd_ 28 38 (lb_ 39 536870911) rfl rfl (ao_ HT_) ?_
      refine pd_ 29 39 (lb_ 39 1073741823) rfl rfl (ao_ HT_) ?_
      refine pd_ 30 40 (lb_ 39 2147483647) rfl rfl (ao_ HT_) ?_
      refine pd_ 31 41 (lb_ 39 4294967295) rfl rfl (ao_ HT_) ?_
      refine pu_ 32 42 (lb_ 39 8589934591) rfl rfl (ao_ HT_) ?_
      refine pu_ 33 43 (lb_ 39 17179869183) rfl rfl (ao_ HT_) ?_
      refine pd_ 34 44 (lb_ 39 34359738367) rfl rfl (ao_ HT_) ?_
      refine pd_ 35 45 (lb_ 39 68719476735) rfl rfl (ao_ HT_) ?_
      refine pd_ 36 46 (lb_ 39 137438953471) rfl rfl (ao_ HT_) ?_
      refine pu_ 37 47 (lb_ 39 274877906943) rfl rfl (ao_ HT_) ?_
      refine pu_ 38 2 (lb_ 39 549755813887) rfl rfl (ao_ HT_) ?_
      refine done_ (done_of HT_.out (by kernel_rfl)) ?_
      try go_wp2
      go_ret
      exact ⟨by first | rfl | (simp [errW_none, errW_some] <;> rfl) | (simp [*, errW_none, errW_some] <;> rfl), bh_ HB⟩
     ·replace c16 := Bool.eq_false_iff.mpr c16
      subst c16
      have H1 : ((conv_two.f kj12 (([a0_3, a0_4] : List Bool))).bind fun t172 => (if t172 = true then (some false) else ((conv_blocks.f a0_0 a0_1 a0_2 a0_3 a0_4 a0_5 a0_6 a0_7 a0_8).bind fun t173 => ((conv_unblocks.f a0_0 a0_1 a0_2 a0_3 a0_4 a0_5 a0_6 a0_7 a0_8).bind fun t174 => ((conv_two.f kj12 (([t173, t174] : List Bool))).bind fun t178 => (if t178 = true then (some false) else (if a0_8 ≥ x3_12 then (some (decide (a0_8 ≤ 4096))) else (some false)))))))) = some r := by rw [if_neg (show ¬ (false = true) by decide)] at H; exact H
      clear H
      have H := H1
      clear H1
      obtain ⟨y169, hy169⟩ : ∃ y_ : List Bool, y_ = (([a0_3, a0_4] : List Bool)) := ⟨_, rfl⟩
      replace H : ((conv_two.f kj12 y169).bind fun t172 => (if t172 = true then (some false) else ((conv_blocks.f a0_0 a0_1 a0_2 a0_3 a0_4 a0_5 a0_6 a0_7 a0_8).bind fun t173 => ((conv_unblocks.f a0_0 a0_1 a0_2 a0_3 a0_4 a0_5 a0_6 a0_7 a0_8).bind fun t174 => ((conv_two.f kj12 (([t173, t174] : List Bool))).bind fun t178 => (if t178 = true then (some false) else (if a0_8 ≥ x3_12 then (some (decide (a0_8 ≤ 4096))) else (some false)))))))) = some r := by first | (rw [hy169]; with_reducible exact H) | (have H2_ := (Option.bind_some _ _).symm.trans H; rw [hy169]; with_reducible exact H2_) | (have H2_ := (Option.bind_some _ _).symm.trans H; with_reducible exact H2_) | with_reducible exact H | (rw [hy169]; exact H) | exact H
      have Ny169 := Aside0.mk hy169
      clear hy169
      replace H := Option.bind_eq_some_iff.mp H
      obtain ⟨t172, A210, H⟩ := H
      replace H : (if t172 = true then (some false) else ((conv_blocks.f a0_0 a0_1 a0_2 a0_3 a0_4 a0_5 a0_6 a0_7 a0_8).bind fun t173 => ((conv_unblocks.f a0_0 a0_1 a0_2 a0_3 a0_4 a0_5 a0_6 a0_7 a0_8).bind fun t174 => ((conv_two.f kj12 (([t173, t174] : List Bool))).bind fun t178 => (if t178 = true then (some false) else (if a0_8 ≥ x3_12 then (some (decide (a0_8 ≤ 4096))) else (some false))))))) = some r := H
      have A21 := Aside0.mk A210
      clear A210
      by_cases c22 : t172 = true
      ·subst c22
       have H1 : (some false) = some r := by rw [if_pos rfl] at H; exact H
       clear H
       have H := H1
       clear H1
       obtain rfl := Option.some.inj H
       try go_wp2
       replace BK162 := Aside0.mk (blk_drew BK162.out)
       replace HB := Aside0.mk (below_drew1 HB.out)
       refine start_ (n := 39) (S := fun w' => w'.cell? ⟨gb162, 0, none⟩ = some (.bool a0_0) ∧ w'.cell? ⟨gb162, 1, none⟩ = some (.bool a0_1) ∧ w'.cell? ⟨gb162, 2, none⟩ = some (.bool a0_2) ∧ w'.cell? ⟨gb162, 3, none⟩ = some (.bool a0_3) ∧ w'.cell? ⟨gb162, 4, none⟩ = some (.bool a0_4) ∧ w'.cell? ⟨gb162, 5, none⟩ = some (.bool a0_5) ∧ w'.cell? ⟨gb162, 6, none⟩ = some (.bool a0_6) ∧ w'.cell? ⟨gb162, 7, none⟩ = some (.bool a0_7) ∧ w'.cell? ⟨gb162, 8, none⟩ = some (.int .i64 a0_8)) (ds := []) #[false, false, false, false, false, false, false, false, false, false, false, false, false, false, false, false, false, false, false, false, false, false, false, false, false, false, false, false, false, false, false, false, false, false, false, false, false, false, false] (by kernel_rfl) rfl rfl ⟨(blk_cell BK162.out 0).trans rfl, (blk_cell BK162.out 1).trans rfl, (blk_cell BK162.out 2).trans rfl, (blk_cell BK162.out 3).trans rfl, (blk_cell BK162.out 4).trans rfl, (blk_cell BK162.out 5).trans rfl, (blk_cell BK162.out 6).trans rfl, (blk_cell BK162.out 7).trans rfl, (blk_cell BK162.out 8).trans rfl⟩ (fun hHeld => ?_); refine with_tabW conv_May.tab4 conv_May.bits4 (fun HT_ HW_ => ?_)
       generalize wc.drew = w23 at BK162 HB hHeld ⊢
       refine pu_ 0 10 (lb_ 39 1) rfl rfl (ao_ HT_) ?_
       refine pu_ 2 12 (lb_ 39 5) rfl rfl (ao_ HT_) ?_
       refine pu_ 4 14 (lb_ 39 21) rfl rfl (ao_ HT_) ?_
       refine tk_ 1 11 (lb_ 39 23) rfl rfl (take_ofW HT_.out HW_.out (by kernel_rfl)) hHeld ?_
       refine tk_ 3 13 (lb_ 39 31) rfl rfl (take_ofW HT_.out HW_.out (by kernel_rfl)) hHeld ?_
       refine tk_ 5 15 (lb_ 39 63) rfl rfl (take_ofW HT_.out HW_.out (by kernel_rfl)) hHeld ?_
       refine one_ (i := 6) (N := some 16) #[true, true, true, true, true, true, true, false, false, false, false, false, false, false, false, false, false, false, false, false, false, false, false, false, false, false, false, false, false, false, false, false, false, false, false, false, false, false, false] rfl rfl (one_of HT_.out (by kernel_rfl)) (by decide) (fun K hK => ?_)
       refine Kd.R_lit_step Kd.bool _ 4 ?hg (N := 16) ?hd (xs := ([a0_5, a0_6, a0_7] : List Bool)) (inner := [.bool a0_5, .bool a0_6, .bool a0_7]) (ok := fun _ => True) (okp := fun _ => True) ?hr ?hp (fun _ hk => hk) trivial (Below.refl _ _) (Nat.le_refl _) (by simp) ?_; (case hd => rfl); (case hg => rfl); (case hr => first | (go_simp; done) | (go_simp; rfl)); (case hp => exact (Reps.one (show Kd.M Kd.bool _ _ _ a0_5 [.bool a0_5] from rfl) (Reps.one (show Kd.M Kd.bool _ _ _ a0_6 [.bool a0_6] from rfl) (Reps.one (show Kd.M Kd.bool _ _ _ a0_7 [.bool a0_7] from rfl) (Reps.none _ _)))))
       intro v166 w24 ho25 hb hg_ hnew_
       clear hg_ hnew_
       (first | rw [← Ny165.out] at ho25 | (simp only [Int.reduceToNat] at ho25; rw [← Ny165.out] at ho25))
       have HO167 := Aside0.mk (Kd.R_lower ho25 (below_size (bh_ HB)))
       replace BK162 := bb_ BK162 hb
       replace HB := bs_ HB hb
       clear hb ho25
       obtain ⟨Ao26, co26, eo26⟩ := Kd.R_slice HO167.out
       (first | subst eo26 | (injection eo26 with f1_ f2_ f3_; have f4_ := f1_.symm; have f5_ := f3_.symm; clear f1_ f2_ f3_; subst f4_; subst f5_))
       refine hK.out _ _ ⟨(blk_cell BK162.out 0).trans rfl, (blk_cell BK162.out 1).trans rfl, (blk_cell BK162.out 2).trans rfl, (blk_cell BK162.out 3).trans rfl, (blk_cell BK162.out 4).trans rfl, (blk_cell BK162.out 5).trans rfl, (blk_cell BK162.out 6).trans rfl, (blk_cell BK162.out 7).trans rfl, (blk_cell BK162.out 8).trans rfl⟩ (fun hHeld => ?_)
       clear hK K
       refine nm_ 16 ?_
       refine one_ (i := 7) (N := some 17) #[true, true, true, true, true, true, true, true, false, false, false, false, false, false, false, false, false, false, false, false, false, false, false, false, false, false, false, false, false, false, false, false, false, false, false, false, false, false, false] rfl rfl (one_of HT_.out (by kernel_rfl)) (by decide) (fun K hK => ?_)
       refine gq_ Tryd.func46 (by kernel_rfl) rfl #[.slice Ao26 y165.length co26] (by rfl) rfl rfl ?_
       with_reducible refine (conv_two.calls kj12 _ _ y165 false _ ?side1 ?side2 A15.out).mono ?_
       (case side1 => repeat (first | exact (Kd.R_reads' HO167.out).2.2 | (with_reducible refine Kd.C_alloc ?_ _) | (with_reducible refine Kd.C_drewN ?_ _) | (with_reducible refine Kd.C_drew ?_)))
       (case side2 => exact (Kd.R_reads' HO167.out).2.1)
       rintro e w' ⟨rfl, ⟨nd, rfl⟩⟩
       refine ⟨_, rfl, ?_⟩
       refine hK.out _ _ ⟨(blk_cell BK162.out 0).trans rfl, (blk_cell BK162.out 1).trans rfl, (blk_cell BK162.out 2).trans rfl, (blk_cell BK162.out 3).trans rfl, (blk_cell BK162.out 4).trans rfl, (blk_cell BK162.out 5).trans rfl, (blk_cell BK162.out 6).trans rfl, (blk_cell BK162.out 7).trans rfl, (blk_cell BK162.out 8).trans rfl⟩ (fun hHeld => ?_)
       clear hK K
       refine nm_ 17 ?_
       refine pu_ 8 18 (lb_ 39 511) rfl rfl (ao_ HT_) ?_
       refine pu_ 9 19 (lb_ 39 1023) rfl rfl (ao_ HT_) ?_
       refine pu_ 10 20 (lb_ 39 2047) rfl rfl (ao_ HT_) ?_
       refine pu_ 12 22 (lb_ 39 6143) rfl rfl (ao_ HT_) ?_
       refine tk_ 11 21 (lb_ 39 8191) rfl rfl (take_ofW HT_.out HW_.out (by kernel_rfl)) hHeld ?_
       refine tk_ 13 23 (lb_ 39 16383) rfl rfl (take_ofW HT_.out HW_.out (by kernel_rfl)) hHeld ?_
       refine one_ (i := 14) (N := some 24) #[true, true, true, true, true, true, true, true, true, true, true, true, true, true, true, false, false, false, false, false, false, false, false, false, false, false, false, false, false, false, false, false, false, false, false, false, false, false, false] rfl rfl (one_of HT_.out (by kernel_rfl)) (by decide) (fun K hK => ?_)
       refine Kd.R_lit_step Kd.bool _ 4 ?hg (N := 24) ?hd (xs := ([a0_3, a0_4] : List Bool)) (inner := [.bool a0_3, .bool a0_4]) (ok := fun _ => True) (okp := fun _ => True) ?hr ?hp (fun _ hk => hk) trivial (Below.refl _ _) (Nat.le_refl _) (by simp) ?_; (case hd => rfl); (case hg => rfl); (case hr => first | (go_simp; done) | (go_simp; rfl)); (case hp => exact (Reps.one (show Kd.M Kd.bool _ _ _ a0_3 [.bool a0_3] from rfl) (Reps.one (show Kd.M Kd.bool _ _ _ a0_4 [.bool a0_4] from rfl) (Reps.none _ _))))
       intro v170 w27 ho28 hb hg_ hnew_
       clear hg_ hnew_
       (first | rw [← Ny169.out] at ho28 | (simp only [Int.reduceToNat] at ho28; rw [← Ny169.out] at ho28))
       have n0_ := Aside0.mk (Kd.R_elder' (by (with_reducible repeat (first | apply Kd.R_alloc | apply Kd.R_drewN | apply Kd.R_drew)); exact HO167.out) (Kd.R_base ho28) hb)
       have n1_ := Aside0.mk (Kd.R_lower (Kd.R_new' ho28 (Kd.R_lt (by (with_reducible repeat (first | apply Kd.R_alloc | apply Kd.R_drewN | apply Kd.R_drew)); exact HO167.out))) (below_size (bh_ HB)))
       have n2_ := bb_ BK162 hb
       have n3_ := bs_ HB hb
       clear HO167
       clear BK162
       clear HB
       have HO167 := n0_
       have HO171 := n1_
       have BK162 := n2_
       have HB := n3_
       clear n0_ n1_ n2_ n3_
       clear hb ho28
       obtain ⟨Ao29, co29, eo29⟩ := Kd.R_slice HO171.out
       (first | subst eo29 | (injection eo29 with f1_ f2_ f3_; have f4_ := f1_.symm; have f5_ := f3_.symm; clear f1_ f2_ f3_; subst f4_; subst f5_))
       refine hK.out _ _ ⟨(blk_cell BK162.out 0).trans rfl, (blk_cell BK162.out 1).trans rfl, (blk_cell BK162.out 2).trans rfl, (blk_cell BK162.out 3).trans rfl, (blk_cell BK162.out 4).trans rfl, (blk_cell BK162.out 5).trans rfl, (blk_cell BK162.out 6).trans rfl, (blk_cell BK162.out 7).trans rfl, (blk_cell BK162.out 8).trans rfl⟩ (fun hHeld => ?_)
       clear hK K
       refine nm_ 24 ?_
       refine one_ (i := 15) (N := some 25) #[true, true, true, true, true, true, true, true, true, true, true, true, true, true, true, true, false, false, false, false, false, false, false, false, false, false, false, false, false, false, false, false, false, false, false, false, false, false, false] rfl rfl (one_of HT_.out (by kernel_rfl)) (by decide) (fun K hK => ?_)
       refine gq_ Tryd.func46 (by kernel_rfl) rfl #[.slice Ao29 y169.length co29] (by rfl) rfl rfl ?_
       with_reducible refine (conv_two.calls kj12 _ _ y169 true _ ?side1 ?side2 A21.out).mono ?_
       (case side1 => repeat (first | exact (Kd.R_reads' HO171.out).2.2 | (with_reducible refine Kd.C_alloc ?_ _) | (with_reducible refine Kd.C_drewN ?_ _) | (with_reducible refine Kd.C_drew ?_)))
       (case side2 => exact (Kd.R_reads' HO171.out).2.1)
       rintro e w' ⟨rfl, ⟨nd, rfl⟩⟩
       refine ⟨_, rfl, ?_⟩
       refine hK.out _ _ ⟨(blk_cell BK162.out 0).trans rfl, (blk_cell BK162.out 1).trans rfl, (blk_cell BK162.out 2).trans rfl, (blk_cell BK162.out 3).trans rfl, (blk_cell BK162.out 4).trans rfl, (blk_cell BK162.out 5).trans rfl, (blk_cell BK162.out 6).trans rfl, (blk_cell BK162.out 7).trans rfl, (blk_cell BK162.out 8).trans rfl⟩ (fun hHeld => ?_)
       clear hK K
       refine nm_ 25 ?_
       refine pu_ 16 26 (lb_ 39 131071) rfl rfl (ao_ HT_) ?_
       refine pu_ 17 27 (lb_ 39 262143) rfl rfl (ao_ HT_) ?_
       refine pu_ 18 28 (lb_ 39 524287) rfl rfl (ao_ HT_) ?_
       refine pd_ 19 29 (lb_ 39 1048575) rfl rfl (ao_ HT_) ?_
       refine pd_ 20 30 (lb_ 39 2097151) rfl rfl (ao_ HT_) ?_
       refine pd_ 21 31 (lb_ 39 4194303) rfl rfl (ao_ HT_) ?_
       refine pd_ 22 32 (lb_ 39 8388607) rfl rfl (ao_ HT_) ?_
       refine pd_ 23 33 (lb_ 39 16777215) rfl rfl (ao_ HT_) ?_
       refine pd_ 24 34 (lb_ 39 33554431) rfl rfl (ao_ HT_) ?_
       refine pd_ 25 35 (lb_ 39 67108863) rfl rfl (ao_ HT_) ?_
       refine pu_ 26 36 (lb_ 39 134217727) rfl rfl (ao_ HT_) ?_
       refine pu_ 27 37 (lb_ 39 268435455) rfl rfl (ao_ HT_) ?_
       refine pd_ 28 38 (lb_ 39 536870911) rfl rfl (ao_ HT_) ?_
       refine pd_ 29 39 (lb_ 39 1073741823) rfl rfl (ao_ HT_) ?_
       refine pd_ 30 40 (lb_ 39 2147483647) rfl rfl (ao_ HT_) ?_
       refine pd_ 31 41 (lb_ 39 4294967295) rfl rfl (ao_ HT_) ?_
       refine pu_ 32 42 (lb_ 39 8589934591) rfl rfl (ao_ HT_) ?_
       refine pu_ 33 43 (lb_ 39 17179869183) rfl rfl (ao_ HT_) ?_
       refine pd_ 34 44 (lb_ 39 34359738367) rfl rfl (ao_ HT_) ?_
       refine pd_ 35 45 (lb_ 39 68719476735) rfl rfl (ao_ HT_) ?_
       refine pd_ 36 46 (lb_ 39 137438953471) rfl rfl (ao_ HT_) ?_
       refine pu_ 37 47 (lb_ 39 274877906943) rfl rfl (ao_ HT_) ?_
       refine pu_ 38 2 (lb_ 39 549755813887) rfl rfl (ao_ HT_) ?_
       refine done_ (done_of HT_.out (by kernel_rfl)) ?_
       try go_wp2
       go_ret
       exact ⟨by first | rfl | (simp [errW_none, errW_some] <;> rfl) | (simp [*, errW_none, errW_some] <;> rfl), bh_ HB⟩
      ·replace c22 := Bool.eq_false_iff.mpr c22
       subst c22
       have H1 : ((conv_blocks.f a0_0 a0_1 a0_2 a0_3 a0_4 a0_5 a0_6 a0_7 a0_8).bind fun t173 => ((conv_unblocks.f a0_0 a0_1 a0_2 a0_3 a0_4 a0_5 a0_6 a0_7 a0_8).bind fun t174 => ((conv_two.f kj12 (([t173, t174] : List Bool))).bind fun t178 => (if t178 = true then (some false) else (if a0_8 ≥ x3_12 then (some (decide (a0_8 ≤ 4096))) else (some false)))))) = some r := by rw [if_neg (show ¬ (false = true) by decide)] at H; exact H
       clear H
       have H := H1
       clear H1
       replace H := Option.bind_eq_some_iff.mp H
       obtain ⟨t173, A300, H⟩ := H
       replace H : ((conv_unblocks.f a0_0 a0_1 a0_2 a0_3 a0_4 a0_5 a0_6 a0_7 a0_8).bind fun t174 => ((conv_two.f kj12 (([t173, t174] : List Bool))).bind fun t178 => (if t178 = true then (some false) else (if a0_8 ≥ x3_12 then (some (decide (a0_8 ≤ 4096))) else (some false))))) = some r := H
       have A30 := Aside0.mk A300
       clear A300
       replace H := Option.bind_eq_some_iff.mp H
       obtain ⟨t174, A310, H⟩ := H
       replace H : ((conv_two.f kj12 (([t173, t174] : List Bool))).bind fun t178 => (if t178 = true then (some false) else (if a0_8 ≥ x3_12 then (some (decide (a0_8 ≤ 4096))) else (some false)))) = some r := H
       have A31 := Aside0.mk A310
       clear A310
       obtain ⟨y175, hy175⟩ : ∃ y_ : List Bool, y_ = (([t173, t174] : List Bool)) := ⟨_, rfl⟩
       replace H : ((conv_two.f kj12 y175).bind fun t178 => (if t178 = true then (some false) else (if a0_8 ≥ x3_12 then (some (decide (a0_8 ≤ 4096))) else (some false)))) = some r := by first | (rw [hy175]; with_reducible exact H) | (have H2_ := (Option.bind_some _ _).symm.trans H; rw [hy175]; with_reducible exact H2_) | (have H2_ := (Option.bind_some _ _).symm.trans H; with_reducible exact H2_) | with_reducible exact H | (rw [hy175]; exact H) | exact H
       have Ny175 := Aside0.mk hy175
       clear hy175
       replace H := Option.bind_eq_some_iff.mp H
       obtain ⟨t178, A320, H⟩ := H
       replace H : (if t178 = true then (some false) else (if a0_8 ≥ x3_12 then (some (decide (a0_8 ≤ 4096))) else (some false))) = some r := H
       have A32 := Aside0.mk A320
       clear A320
       by_cases c33 : t178 = true
       ·subst c33
        have H1 : (some false) = some r := by rw [if_pos rfl] at H; exact H
        clear H
        have H := H1
        clear H1
        obtain rfl := Option.some.inj H
        try go_wp2
        replace BK162 := Aside0.mk (blk_drew BK162.out)
        replace HB := Aside0.mk (below_drew1 HB.out)
        refine start_ (n := 39) (S := fun w' => w'.cell? ⟨gb162, 0, none⟩ = some (.bool a0_0) ∧ w'.cell? ⟨gb162, 1, none⟩ = some (.bool a0_1) ∧ w'.cell? ⟨gb162, 2, none⟩ = some (.bool a0_2) ∧ w'.cell? ⟨gb162, 3, none⟩ = some (.bool a0_3) ∧ w'.cell? ⟨gb162, 4, none⟩ = some (.bool a0_4) ∧ w'.cell? ⟨gb162, 5, none⟩ = some (.bool a0_5) ∧ w'.cell? ⟨gb162, 6, none⟩ = some (.bool a0_6) ∧ w'.cell? ⟨gb162, 7, none⟩ = some (.bool a0_7) ∧ w'.cell? ⟨gb162, 8, none⟩ = some (.int .i64 a0_8)) (ds := []) #[false, false, false, false, false, false, false, false, false, false, false, false, false, false, false, false, false, false, false, false, false, false, false, false, false, false, false, false, false, false, false, false, false, false, false, false, false, false, false] (by kernel_rfl) rfl rfl ⟨(blk_cell BK162.out 0).trans rfl, (blk_cell BK162.out 1).trans rfl, (blk_cell BK162.out 2).trans rfl, (blk_cell BK162.out 3).trans rfl, (blk_cell BK162.out 4).trans rfl, (blk_cell BK162.out 5).trans rfl, (blk_cell BK162.out 6).trans rfl, (blk_cell BK162.out 7).trans rfl, (blk_cell BK162.out 8).trans rfl⟩ (fun hHeld => ?_); refine with_tabW conv_May.tab4 conv_May.bits4 (fun HT_ HW_ => ?_)
        generalize wc.drew = w34 at BK162 HB hHeld ⊢
        refine pu_ 0 10 (lb_ 39 1) rfl rfl (ao_ HT_) ?_
        refine pu_ 2 12 (lb_ 39 5) rfl rfl (ao_ HT_) ?_
        refine pu_ 4 14 (lb_ 39 21) rfl rfl (ao_ HT_) ?_
        refine tk_ 1 11 (lb_ 39 23) rfl rfl (take_ofW HT_.out HW_.out (by kernel_rfl)) hHeld ?_
        refine tk_ 3 13 (lb_ 39 31) rfl rfl (take_ofW HT_.out HW_.out (by kernel_rfl)) hHeld ?_
        refine tk_ 5 15 (lb_ 39 63) rfl rfl (take_ofW HT_.out HW_.out (by kernel_rfl)) hHeld ?_
        refine one_ (i := 6) (N := some 16) #[true, true, true, true, true, true, true, false, false, false, false, false, false, false, false, false, false, false, false, false, false, false, false, false, false, false, false, false, false, false, false, false, false, false, false, false, false, false, false] rfl rfl (one_of HT_.out (by kernel_rfl)) (by decide) (fun K hK => ?_)
        refine Kd.R_lit_step Kd.bool _ 4 ?hg (N := 16) ?hd (xs := ([a0_5, a0_6, a0_7] : List Bool)) (inner := [.bool a0_5, .bool a0_6, .bool a0_7]) (ok := fun _ => True) (okp := fun _ => True) ?hr ?hp (fun _ hk => hk) trivial (Below.refl _ _) (Nat.le_refl _) (by simp) ?_; (case hd => rfl); (case hg => rfl); (case hr => first | (go_simp; done) | (go_simp; rfl)); (case hp => exact (Reps.one (show Kd.M Kd.bool _ _ _ a0_5 [.bool a0_5] from rfl) (Reps.one (show Kd.M Kd.bool _ _ _ a0_6 [.bool a0_6] from rfl) (Reps.one (show Kd.M Kd.bool _ _ _ a0_7 [.bool a0_7] from rfl) (Reps.none _ _)))))
        intro v166 w35 ho36 hb hg_ hnew_
        clear hg_ hnew_
        (first | rw [← Ny165.out] at ho36 | (simp only [Int.reduceToNat] at ho36; rw [← Ny165.out] at ho36))
        have HO167 := Aside0.mk (Kd.R_lower ho36 (below_size (bh_ HB)))
        replace BK162 := bb_ BK162 hb
        replace HB := bs_ HB hb
        clear hb ho36
        obtain ⟨Ao37, co37, eo37⟩ := Kd.R_slice HO167.out
        (first | subst eo37 | (injection eo37 with f1_ f2_ f3_; have f4_ := f1_.symm; have f5_ := f3_.symm; clear f1_ f2_ f3_; subst f4_; subst f5_))
        refine hK.out _ _ ⟨(blk_cell BK162.out 0).trans rfl, (blk_cell BK162.out 1).trans rfl, (blk_cell BK162.out 2).trans rfl, (blk_cell BK162.out 3).trans rfl, (blk_cell BK162.out 4).trans rfl, (blk_cell BK162.out 5).trans rfl, (blk_cell BK162.out 6).trans rfl, (blk_cell BK162.out 7).trans rfl, (blk_cell BK162.out 8).trans rfl⟩ (fun hHeld => ?_)
        clear hK K
        refine nm_ 16 ?_
        refine one_ (i := 7) (N := some 17) #[true, true, true, true, true, true, true, true, false, false, false, false, false, false, false, false, false, false, false, false, false, false, false, false, false, false, false, false, false, false, false, false, false, false, false, false, false, false, false] rfl rfl (one_of HT_.out (by kernel_rfl)) (by decide) (fun K hK => ?_)
        refine gq_ Tryd.func46 (by kernel_rfl) rfl #[.slice Ao37 y165.length co37] (by rfl) rfl rfl ?_
        with_reducible refine (conv_two.calls kj12 _ _ y165 false _ ?side1 ?side2 A15.out).mono ?_
        (case side1 => repeat (first | exact (Kd.R_reads' HO167.out).2.2 | (with_reducible refine Kd.C_alloc ?_ _) | (with_reducible refine Kd.C_drewN ?_ _) | (with_reducible refine Kd.C_drew ?_)))
        (case side2 => exact (Kd.R_reads' HO167.out).2.1)
        rintro e w' ⟨rfl, ⟨nd, rfl⟩⟩
        refine ⟨_, rfl, ?_⟩
        refine hK.out _ _ ⟨(blk_cell BK162.out 0).trans rfl, (blk_cell BK162.out 1).trans rfl, (blk_cell BK162.out 2).trans rfl, (blk_cell BK162.out 3).trans rfl, (blk_cell BK162.out 4).trans rfl, (blk_cell BK162.out 5).trans rfl, (blk_cell BK162.out 6).trans rfl, (blk_cell BK162.out 7).trans rfl, (blk_cell BK162.out 8).trans rfl⟩ (fun hHeld => ?_)
        clear hK K
        refine nm_ 17 ?_
        refine pu_ 8 18 (lb_ 39 511) rfl rfl (ao_ HT_) ?_
        refine pu_ 9 19 (lb_ 39 1023) rfl rfl (ao_ HT_) ?_
        refine pu_ 10 20 (lb_ 39 2047) rfl rfl (ao_ HT_) ?_
        refine pu_ 12 22 (lb_ 39 6143) rfl rfl (ao_ HT_) ?_
        refine tk_ 11 21 (lb_ 39 8191) rfl rfl (take_ofW HT_.out HW_.out (by kernel_rfl)) hHeld ?_
        refine tk_ 13 23 (lb_ 39 16383) rfl rfl (take_ofW HT_.out HW_.out (by kernel_rfl)) hHeld ?_
        refine one_ (i := 14) (N := some 24) #[true, true, true, true, true, true, true, true, true, true, true, true, true, true, true, false, false, false, false, false, false, false, false, false, false, false, false, false, false, false, false, false, false, false, false, false, false, false, false] rfl rfl (one_of HT_.out (by kernel_rfl)) (by decide) (fun K hK => ?_)
        refine Kd.R_lit_step Kd.bool _ 4 ?hg (N := 24) ?hd (xs := ([a0_3, a0_4] : List Bool)) (inner := [.bool a0_3, .bool a0_4]) (ok := fun _ => True) (okp := fun _ => True) ?hr ?hp (fun _ hk => hk) trivial (Below.refl _ _) (Nat.le_refl _) (by simp) ?_; (case hd => rfl); (case hg => rfl); (case hr => first | (go_simp; done) | (go_simp; rfl)); (case hp => exact (Reps.one (show Kd.M Kd.bool _ _ _ a0_3 [.bool a0_3] from rfl) (Reps.one (show Kd.M Kd.bool _ _ _ a0_4 [.bool a0_4] from rfl) (Reps.none _ _))))
        intro v170 w38 ho39 hb hg_ hnew_
        clear hg_ hnew_
        (first | rw [← Ny169.out] at ho39 | (simp only [Int.reduceToNat] at ho39; rw [← Ny169.out] at ho39))
        have n0_ := Aside0.mk (Kd.R_elder' (by (with_reducible repeat (first | apply Kd.R_alloc | apply Kd.R_drewN | apply Kd.R_drew)); exact HO167.out) (Kd.R_base ho39) hb)
        have n1_ := Aside0.mk (Kd.R_lower (Kd.R_new' ho39 (Kd.R_lt (by (with_reducible repeat (first | apply Kd.R_alloc | apply Kd.R_drewN | apply Kd.R_drew)); exact HO167.out))) (below_size (bh_ HB)))
        have n2_ := bb_ BK162 hb
        have n3_ := bs_ HB hb
        clear HO167
        clear BK162
        clear HB
        have HO167 := n0_
        have HO171 := n1_
        have BK162 := n2_
        have HB := n3_
        clear n0_ n1_ n2_ n3_
        clear hb ho39
        obtain ⟨Ao40, co40, eo40⟩ := Kd.R_slice HO171.out
        (first | subst eo40 | (injection eo40 with f1_ f2_ f3_; have f4_ := f1_.symm; have f5_ := f3_.symm; clear f1_ f2_ f3_; subst f4_; subst f5_))
        refine hK.out _ _ ⟨(blk_cell BK162.out 0).trans rfl, (blk_cell BK162.out 1).trans rfl, (blk_cell BK162.out 2).trans rfl, (blk_cell BK162.out 3).trans rfl, (blk_cell BK162.out 4).trans rfl, (blk_cell BK162.out 5).trans rfl, (blk_cell BK162.out 6).trans rfl, (blk_cell BK162.out 7).trans rfl, (blk_cell BK162.out 8).trans rfl⟩ (fun hHeld => ?_)
        clear hK K
        refine nm_ 24 ?_
        refine one_ (i := 15) (N := some 25) #[true, true, true, true, true, true, true, true, true, true, true, true, true, true, true, true, false, false, false, false, false, false, false, false, false, false, false, false, false, false, false, false, false, false, false, false, false, false, false] rfl rfl (one_of HT_.out (by kernel_rfl)) (by decide) (fun K hK => ?_)
        refine gq_ Tryd.func46 (by kernel_rfl) rfl #[.slice Ao40 y169.length co40] (by rfl) rfl rfl ?_
        with_reducible refine (conv_two.calls kj12 _ _ y169 false _ ?side1 ?side2 A21.out).mono ?_
        (case side1 => repeat (first | exact (Kd.R_reads' HO171.out).2.2 | (with_reducible refine Kd.C_alloc ?_ _) | (with_reducible refine Kd.C_drewN ?_ _) | (with_reducible refine Kd.C_drew ?_)))
        (case side2 => exact (Kd.R_reads' HO171.out).2.1)
        rintro e w' ⟨rfl, ⟨nd, rfl⟩⟩
        refine ⟨_, rfl, ?_⟩
        refine hK.out _ _ ⟨(blk_cell BK162.out 0).trans rfl, (blk_cell BK162.out 1).trans rfl, (blk_cell BK162.out 2).trans rfl, (blk_cell BK162.out 3).trans rfl, (blk_cell BK162.out 4).trans rfl, (blk_cell BK162.out 5).trans rfl, (blk_cell BK162.out 6).trans rfl, (blk_cell BK162.out 7).trans rfl, (blk_cell BK162.out 8).trans rfl⟩ (fun hHeld => ?_)
        clear hK K
        refine nm_ 25 ?_
        refine pu_ 16 26 (lb_ 39 131071) rfl rfl (ao_ HT_) ?_
        refine pu_ 17 27 (lb_ 39 262143) rfl rfl (ao_ HT_) ?_
        refine pu_ 18 28 (lb_ 39 524287) rfl rfl (ao_ HT_) ?_
        refine tk_ 19 29 (lb_ 39 1048575) rfl rfl (take_ofW HT_.out HW_.out (by kernel_rfl)) hHeld ?_
        refine tk_ 21 31 (lb_ 39 3145727) rfl rfl (take_ofW HT_.out HW_.out (by kernel_rfl)) hHeld ?_
        refine one_ (i := 20) (N := some 30) #[true, true, true, true, true, true, true, true, true, true, true, true, true, true, true, true, true, true, true, true, true, true, false, false, false, false, false, false, false, false, false, false, false, false, false, false, false, false, false] rfl rfl (one_of HT_.out (by kernel_rfl)) (by decide) (fun K hK => ?_)
        refine gq_ Tryd.func44 (by kernel_rfl) rfl #[.agg #[.bool a0_0, .bool a0_1, .bool a0_2, .bool a0_3, .bool a0_4, .bool a0_5, .bool a0_6, .bool a0_7, .int .i64 a0_8]] (by rfl) rfl rfl ?_
        with_reducible refine (conv_blocks.calls a0_0 a0_1 a0_2 a0_3 a0_4 a0_5 a0_6 a0_7 a0_8 t173 _ A30.out).mono ?_
        rintro e w41 ⟨rfl, hb⟩
        refine ⟨_, rfl, ?_⟩
        have n0_ := Aside0.mk (Kd.R_below (by (with_reducible repeat (first | apply Kd.R_alloc | apply Kd.R_drewN | apply Kd.R_drew)); exact HO167.out) hb)
        have n1_ := Aside0.mk (Kd.R_below (by (with_reducible repeat (first | apply Kd.R_alloc | apply Kd.R_drewN | apply Kd.R_drew)); exact HO171.out) hb)
        have n2_ := bb_ BK162 hb
        have n3_ := bs_ HB hb
        clear HO167
        clear HO171
        clear BK162
        clear HB
        have HO167 := n0_
        have HO171 := n1_
        have BK162 := n2_
        have HB := n3_
        clear n0_ n1_ n2_ n3_
        (try clear hb)
        refine hK.out _ _ ⟨(blk_cell BK162.out 0).trans rfl, (blk_cell BK162.out 1).trans rfl, (blk_cell BK162.out 2).trans rfl, (blk_cell BK162.out 3).trans rfl, (blk_cell BK162.out 4).trans rfl, (blk_cell BK162.out 5).trans rfl, (blk_cell BK162.out 6).trans rfl, (blk_cell BK162.out 7).trans rfl, (blk_cell BK162.out 8).trans rfl⟩ (fun hHeld => ?_)
        clear hK K
        refine nm_ 30 ?_
        refine one_ (i := 22) (N := some 32) #[true, true, true, true, true, true, true, true, true, true, true, true, true, true, true, true, true, true, true, true, true, true, true, false, false, false, false, false, false, false, false, false, false, false, false, false, false, false, false] rfl rfl (one_of HT_.out (by kernel_rfl)) (by decide) (fun K hK => ?_)
        refine gq_ Tryd.func45 (by kernel_rfl) rfl #[.agg #[.bool a0_0, .bool a0_1, .bool a0_2, .bool a0_3, .bool a0_4, .bool a0_5, .bool a0_6, .bool a0_7, .int .i64 a0_8]] (by rfl) rfl rfl ?_
        with_reducible refine (conv_unblocks.calls a0_0 a0_1 a0_2 a0_3 a0_4 a0_5 a0_6 a0_7 a0_8 t174 _ A31.out).mono ?_
        rintro e w42 ⟨rfl, hb⟩
        refine ⟨_, rfl, ?_⟩
        have n0_ := Aside0.mk (Kd.R_below (by (with_reducible repeat (first | apply Kd.R_alloc | apply Kd.R_drewN | apply Kd.R_drew)); exact HO167.out) hb)
        have n1_ := Aside0.mk (Kd.R_below (by (with_reducible repeat (first | apply Kd.R_alloc | apply Kd.R_drewN | apply Kd.R_drew)); exact HO171.out) hb)
        have n2_ := bb_ BK162 hb
        have n3_ := bs_ HB hb
        clear HO167
        clear HO171
        clear BK162
        clear HB
        have HO167 := n0_
        have HO171 := n1_
        have BK162 := n2_
        have HB := n3_
        clear n0_ n1_ n2_ n3_
        (try clear hb)
        refine hK.out _ _ ⟨(blk_cell BK162.out 0).trans rfl, (blk_cell BK162.out 1).trans rfl, (blk_cell BK162.out 2).trans rfl, (blk_cell BK162.out 3).trans rfl, (blk_cell BK162.out 4).trans rfl, (blk_cell BK162.out 5).trans rfl, (blk_cell BK162.out 6).trans rfl, (blk_cell BK162.out 7).trans rfl, (blk_cell BK162.out 8).trans rfl⟩ (fun hHeld => ?_)
        clear hK K
        refine nm_ 32 ?_
        refine one_ (i := 23) (N := some 33) #[true, true, true, true, true, true, true, true, true, true, true, true, true, true, true, true, true, true, true, true, true, true, true, true, false, false, false, false, false, false, false, false, false, false, false, false, false, false, false] rfl rfl (one_of HT_.out (by kernel_rfl)) (by decide) (fun K hK => ?_)
        refine Kd.R_lit_step Kd.bool _ 4 ?hg (N := 33) ?hd (xs := ([t173, t174] : List Bool)) (inner := [.bool t173, .bool t174]) (ok := fun _ => True) (okp := fun _ => True) ?hr ?hp (fun _ hk => hk) trivial (Below.refl _ _) (Nat.le_refl _) (by simp) ?_; (case hd => rfl); (case hg => rfl); (case hr => first | (go_simp; done) | (go_simp; rfl)); (case hp => exact (Reps.one (show Kd.M Kd.bool _ _ _ t173 [.bool t173] from rfl) (Reps.one (show Kd.M Kd.bool _ _ _ t174 [.bool t174] from rfl) (Reps.none _ _))))
        intro v176 w43 ho44 hb hg_ hnew_
        clear hg_ hnew_
        (first | rw [← Ny175.out] at ho44 | (simp only [Int.reduceToNat] at ho44; rw [← Ny175.out] at ho44))
        have n0_ := Aside0.mk (Kd.R_elder' (by (with_reducible repeat (first | apply Kd.R_alloc | apply Kd.R_drewN | apply Kd.R_drew)); exact HO167.out) (Kd.R_base ho44) hb)
        have n1_ := Aside0.mk (Kd.R_elder' (by (with_reducible repeat (first | apply Kd.R_alloc | apply Kd.R_drewN | apply Kd.R_drew)); exact HO171.out) (Kd.R_base ho44) hb)
        have n2_ := Aside0.mk (Kd.R_lower (Kd.R_new' (Kd.R_new' ho44 (Kd.R_lt (by (with_reducible repeat (first | apply Kd.R_alloc | apply Kd.R_drewN | apply Kd.R_drew)); exact HO167.out))) (Kd.R_lt (by (with_reducible repeat (first | apply Kd.R_alloc | apply Kd.R_drewN | apply Kd.R_drew)); exact HO171.out))) (below_size (bh_ HB)))
        have n3_ := bb_ BK162 hb
        have n4_ := bs_ HB hb
        clear HO167
        clear HO171
        clear BK162
        clear HB
        have HO167 := n0_
        have HO171 := n1_
        have HO177 := n2_
        have BK162 := n3_
        have HB := n4_
        clear n0_ n1_ n2_ n3_ n4_
        clear hb ho44
        obtain ⟨Ao45, co45, eo45⟩ := Kd.R_slice HO177.out
        (first | subst eo45 | (injection eo45 with f1_ f2_ f3_; have f4_ := f1_.symm; have f5_ := f3_.symm; clear f1_ f2_ f3_; subst f4_; subst f5_))
        refine hK.out _ _ ⟨(blk_cell BK162.out 0).trans rfl, (blk_cell BK162.out 1).trans rfl, (blk_cell BK162.out 2).trans rfl, (blk_cell BK162.out 3).trans rfl, (blk_cell BK162.out 4).trans rfl, (blk_cell BK162.out 5).trans rfl, (blk_cell BK162.out 6).trans rfl, (blk_cell BK162.out 7).trans rfl, (blk_cell BK162.out 8).trans rfl⟩ (fun hHeld => ?_)
        clear hK K
        refine nm_ 33 ?_
        refine one_ (i := 24) (N := some 34) #[true, true, true, true, true, true, true, true, true, true, true, true, true, true, true, true, true, true, true, true, true, true, true, true, true, false, false, false, false, false, false, false, false, false, false, false, false, false, false] rfl rfl (one_of HT_.out (by kernel_rfl)) (by decide) (fun K hK => ?_)
        refine gq_ Tryd.func46 (by kernel_rfl) rfl #[.slice Ao45 y175.length co45] (by rfl) rfl rfl ?_
        with_reducible refine (conv_two.calls kj12 _ _ y175 true _ ?side1 ?side2 A32.out).mono ?_
        (case side1 => repeat (first | exact (Kd.R_reads' HO177.out).2.2 | (with_reducible refine Kd.C_alloc ?_ _) | (with_reducible refine Kd.C_drewN ?_ _) | (with_reducible refine Kd.C_drew ?_)))
        (case side2 => exact (Kd.R_reads' HO177.out).2.1)
        rintro e w' ⟨rfl, ⟨nd, rfl⟩⟩
        refine ⟨_, rfl, ?_⟩
        refine hK.out _ _ ⟨(blk_cell BK162.out 0).trans rfl, (blk_cell BK162.out 1).trans rfl, (blk_cell BK162.out 2).trans rfl, (blk_cell BK162.out 3).trans rfl, (blk_cell BK162.out 4).trans rfl, (blk_cell BK162.out 5).trans rfl, (blk_cell BK162.out 6).trans rfl, (blk_cell BK162.out 7).trans rfl, (blk_cell BK162.out 8).trans rfl⟩ (fun hHeld => ?_)
        clear hK K
        refine nm_ 34 ?_
        refine pu_ 25 35 (lb_ 39 67108863) rfl rfl (ao_ HT_) ?_
        refine pu_ 26 36 (lb_ 39 134217727) rfl rfl (ao_ HT_) ?_
        refine pu_ 27 37 (lb_ 39 268435455) rfl rfl (ao_ HT_) ?_
        refine pd_ 28 38 (lb_ 39 536870911) rfl rfl (ao_ HT_) ?_
        refine pd_ 29 39 (lb_ 39 1073741823) rfl rfl (ao_ HT_) ?_
        refine pd_ 30 40 (lb_ 39 2147483647) rfl rfl (ao_ HT_) ?_
        refine pd_ 31 41 (lb_ 39 4294967295) rfl rfl (ao_ HT_) ?_
        refine pu_ 32 42 (lb_ 39 8589934591) rfl rfl (ao_ HT_) ?_
        refine pu_ 33 43 (lb_ 39 17179869183) rfl rfl (ao_ HT_) ?_
        refine pd_ 34 44 (lb_ 39 34359738367) rfl rfl (ao_ HT_) ?_
        refine pd_ 35 45 (lb_ 39 68719476735) rfl rfl (ao_ HT_) ?_
        refine pd_ 36 46 (lb_ 39 137438953471) rfl rfl (ao_ HT_) ?_
        refine pu_ 37 47 (lb_ 39 274877906943) rfl rfl (ao_ HT_) ?_
        refine pu_ 38 2 (lb_ 39 549755813887) rfl rfl (ao_ HT_) ?_
        refine done_ (done_of HT_.out (by kernel_rfl)) ?_
        try go_wp2
        go_ret
        exact ⟨by first | rfl | (simp [errW_none, errW_some] <;> rfl) | (simp [*, errW_none, errW_some] <;> rfl), bh_ HB⟩
       ·replace c33 := Bool.eq_false_iff.mpr c33
        subst c33
        have H1 : (if a0_8 ≥ x3_12 then (some (decide (a0_8 ≤ 4096))) else (some false)) = some r := by rw [if_neg (show ¬ (false = true) by decide)] at H; exact H
        clear H
        have H := H1
        clear H1
        by_cases c46 : a0_8 ≥ x3_12
        ·rw [if_pos c46] at H
         have c46b0 : decide (x3_12 ≤ a0_8) = true := decide_eq_true c46
         clear c46
         obtain rfl := Option.some.inj H
         try go_wp2
         replace BK162 := Aside0.mk (blk_drew BK162.out)
         replace HB := Aside0.mk (below_drew1 HB.out)
         refine start_ (n := 39) (S := fun w' => w'.cell? ⟨gb162, 0, none⟩ = some (.bool a0_0) ∧ w'.cell? ⟨gb162, 1, none⟩ = some (.bool a0_1) ∧ w'.cell? ⟨gb162, 2, none⟩ = some (.bool a0_2) ∧ w'.cell? ⟨gb162, 3, none⟩ = some (.bool a0_3) ∧ w'.cell? ⟨gb162, 4, none⟩ = some (.bool a0_4) ∧ w'.cell? ⟨gb162, 5, none⟩ = some (.bool a0_5) ∧ w'.cell? ⟨gb162, 6, none⟩ = some (.bool a0_6) ∧ w'.cell? ⟨gb162, 7, none⟩ = some (.bool a0_7) ∧ w'.cell? ⟨gb162, 8, none⟩ = some (.int .i64 a0_8)) (ds := []) #[false, false, false, false, false, false, false, false, false, false, false, false, false, false, false, false, false, false, false, false, false, false, false, false, false, false, false, false, false, false, false, false, false, false, false, false, false, false, false] (by kernel_rfl) rfl rfl ⟨(blk_cell BK162.out 0).trans rfl, (blk_cell BK162.out 1).trans rfl, (blk_cell BK162.out 2).trans rfl, (blk_cell BK162.out 3).trans rfl, (blk_cell BK162.out 4).trans rfl, (blk_cell BK162.out 5).trans rfl, (blk_cell BK162.out 6).trans rfl, (blk_cell BK162.out 7).trans rfl, (blk_cell BK162.out 8).trans rfl⟩ (fun hHeld => ?_); refine with_tabW conv_May.tab4 conv_May.bits4 (fun HT_ HW_ => ?_)
         generalize wc.drew = w47 at BK162 HB hHeld ⊢
         refine pu_ 0 10 (lb_ 39 1) rfl rfl (ao_ HT_) ?_
         refine pu_ 2 12 (lb_ 39 5) rfl rfl (ao_ HT_) ?_
         refine pu_ 4 14 (lb_ 39 21) rfl rfl (ao_ HT_) ?_
         refine tk_ 1 11 (lb_ 39 23) rfl rfl (take_ofW HT_.out HW_.out (by kernel_rfl)) hHeld ?_
         refine tk_ 3 13 (lb_ 39 31) rfl rfl (take_ofW HT_.out HW_.out (by kernel_rfl)) hHeld ?_
         refine tk_ 5 15 (lb_ 39 63) rfl rfl (take_ofW HT_.out HW_.out (by kernel_rfl)) hHeld ?_
         refine one_ (i := 6) (N := some 16) #[true, true, true, true, true, true, true, false, false, false, false, false, false, false, false, false, false, false, false, false, false, false, false, false, false, false, false, false, false, false, false, false, false, false, false, false, false, false, false] rfl rfl (one_of HT_.out (by kernel_rfl)) (by decide) (fun K hK => ?_)
         refine Kd.R_lit_step Kd.bool _ 4 ?hg (N := 16) ?hd (xs := ([a0_5, a0_6, a0_7] : List Bool)) (inner := [.bool a0_5, .bool a0_6, .bool a0_7]) (ok := fun _ => True) (okp := fun _ => True) ?hr ?hp (fun _ hk => hk) trivial (Below.refl _ _) (Nat.le_refl _) (by simp) ?_; (case hd => rfl); (case hg => rfl); (case hr => first | (go_simp; done) | (go_simp; rfl)); (case hp => exact (Reps.one (show Kd.M Kd.bool _ _ _ a0_5 [.bool a0_5] from rfl) (Reps.one (show Kd.M Kd.bool _ _ _ a0_6 [.bool a0_6] from rfl) (Reps.one (show Kd.M Kd.bool _ _ _ a0_7 [.bool a0_7] from rfl) (Reps.none _ _)))))
         intro v166 w48 ho49 hb hg_ hnew_
         clear hg_ hnew_
         (first | rw [← Ny165.out] at ho49 | (simp only [Int.reduceToNat] at ho49; rw [← Ny165.out] at ho49))
         have HO167 := Aside0.mk (Kd.R_lower ho49 (below_size (bh_ HB)))
         replace BK162 := bb_ BK162 hb
         replace HB := bs_ HB hb
         clear hb ho49
         obtain ⟨Ao50, co50, eo50⟩ := Kd.R_slice HO167.out
         (first | subst eo50 | (injection eo50 with f1_ f2_ f3_; have f4_ := f1_.symm; have f5_ := f3_.symm; clear f1_ f2_ f3_; subst f4_; subst f5_))
         refine hK.out _ _ ⟨(blk_cell BK162.out 0).trans rfl, (blk_cell BK162.out 1).trans rfl, (blk_cell BK162.out 2).trans rfl, (blk_cell BK162.out 3).trans rfl, (blk_cell BK162.out 4).trans rfl, (blk_cell BK162.out 5).trans rfl, (blk_cell BK162.out 6).trans rfl, (blk_cell BK162.out 7).trans rfl, (blk_cell BK162.out 8).trans rfl⟩ (fun hHeld => ?_)
         clear hK K
         refine nm_ 16 ?_
         refine one_ (i := 7) (N := some 17) #[true, true, true, true, true, true, true, true, false, false, false, false, false, false, false, false, false, false, false, false, false, false, false, false, false, false, false, false, false, false, false, false, false, false, false, false, false, false, false] rfl rfl (one_of HT_.out (by kernel_rfl)) (by decide) (fun K hK => ?_)
         refine gq_ Tryd.func46 (by kernel_rfl) rfl #[.slice Ao50 y165.length co50] (by rfl) rfl rfl ?_
         with_reducible refine (conv_two.calls kj12 _ _ y165 false _ ?side1 ?side2 A15.out).mono ?_
         (case side1 => repeat (first | exact (Kd.R_reads' HO167.out).2.2 | (with_reducible refine Kd.C_alloc ?_ _) | (with_reducible refine Kd.C_drewN ?_ _) | (with_reducible refine Kd.C_drew ?_)))
         (case side2 => exact (Kd.R_reads' HO167.out).2.1)
         rintro e w' ⟨rfl, ⟨nd, rfl⟩⟩
         refine ⟨_, rfl, ?_⟩
         refine hK.out _ _ ⟨(blk_cell BK162.out 0).trans rfl, (blk_cell BK162.out 1).trans rfl, (blk_cell BK162.out 2).trans rfl, (blk_cell BK162.out 3).trans rfl, (blk_cell BK162.out 4).trans rfl, (blk_cell BK162.out 5).trans rfl, (blk_cell BK162.out 6).trans rfl, (blk_cell BK162.out 7).trans rfl, (blk_cell BK162.out 8).trans rfl⟩ (fun hHeld => ?_)
         clear hK K
         refine nm_ 17 ?_
         refine pu_ 8 18 (lb_ 39 511) rfl rfl (ao_ HT_) ?_
         refine pu_ 9 19 (lb_ 39 1023) rfl rfl (ao_ HT_) ?_
         refine pu_ 10 20 (lb_ 39 2047) rfl rfl (ao_ HT_) ?_
         refine pu_ 12 22 (lb_ 39 6143) rfl rfl (ao_ HT_) ?_
         refine tk_ 11 21 (lb_ 39 8191) rfl rfl (take_ofW HT_.out HW_.out (by kernel_rfl)) hHeld ?_
         refine tk_ 13 23 (lb_ 39 16383) rfl rfl (take_ofW HT_.out HW_.out (by kernel_rfl)) hHeld ?_
         refine one_ (i := 14) (N := some 24) #[true, true, true, true, true, true, true, true, true, true, true, true, true, true, true, false, false, false, false, false, false, false, false, false, false, false, false, false, false, false, false, false, false, false, false, false, false, false, false] rfl rfl (one_of HT_.out (by kernel_rfl)) (by decide) (fun K hK => ?_)
         refine Kd.R_lit_step Kd.bool _ 4 ?hg (N := 24) ?hd (xs := ([a0_3, a0_4] : List Bool)) (inner := [.bool a0_3, .bool a0_4]) (ok := fun _ => True) (okp := fun _ => True) ?hr ?hp (fun _ hk => hk) trivial (Below.refl _ _) (Nat.le_refl _) (by simp) ?_; (case hd => rfl); (case hg => rfl); (case hr => first | (go_simp; done) | (go_simp; rfl)); (case hp => exact (Reps.one (show Kd.M Kd.bool _ _ _ a0_3 [.bool a0_3] from rfl) (Reps.one (show Kd.M Kd.bool _ _ _ a0_4 [.bool a0_4] from rfl) (Reps.none _ _))))
         intro v170 w51 ho52 hb hg_ hnew_
         clear hg_ hnew_
         (first | rw [← Ny169.out] at ho52 | (simp only [Int.reduceToNat] at ho52; rw [← Ny169.out] at ho52))
         have n0_ := Aside0.mk (Kd.R_elder' (by (with_reducible repeat (first | apply Kd.R_alloc | apply Kd.R_drewN | apply Kd.R_drew)); exact HO167.out) (Kd.R_base ho52) hb)
         have n1_ := Aside0.mk (Kd.R_lower (Kd.R_new' ho52 (Kd.R_lt (by (with_reducible repeat (first | apply Kd.R_alloc | apply Kd.R_drewN | apply Kd.R_drew)); exact HO167.out))) (below_size (bh_ HB)))
         have n2_ := bb_ BK162 hb
         have n3_ := bs_ HB hb
         clear HO167
         clear BK162
         clear HB
         have HO167 := n0_
         have HO171 := n1_
         have BK162 := n2_
         have HB := n3_
         clear n0_ n1_ n2_ n3_
         clear hb ho52
         obtain ⟨Ao53, co53, eo53⟩ := Kd.R_slice HO171.out
         (first | subst eo53 | (injection eo53 with f1_ f2_ f3_; have f4_ := f1_.symm; have f5_ := f3_.symm; clear f1_ f2_ f3_; subst f4_; subst f5_))
         refine hK.out _ _ ⟨(blk_cell BK162.out 0).trans rfl, (blk_cell BK162.out 1).trans rfl, (blk_cell BK162.out 2).trans rfl, (blk_cell BK162.out 3).trans rfl, (blk_cell BK162.out 4).trans rfl, (blk_cell BK162.out 5).trans rfl, (blk_cell BK162.out 6).trans rfl, (blk_cell BK162.out 7).trans rfl, (blk_cell BK162.out 8).trans rfl⟩ (fun hHeld => ?_)
         clear hK K
         refine nm_ 24 ?_
         refine one_ (i := 15) (N := some 25) #[true, true, true, true, true, true, true, true, true, true, true, true, true, true, true, true, false, false, false, false, false, false, false, false, false, false, false, false, false, false, false, false, false, false, false, false, false, false, false] rfl rfl (one_of HT_.out (by kernel_rfl)) (by decide) (fun K hK => ?_)
         refine gq_ Tryd.func46 (by kernel_rfl) rfl #[.slice Ao53 y169.length co53] (by rfl) rfl rfl ?_
         with_reducible refine (conv_two.calls kj12 _ _ y169 false _ ?side1 ?side2 A21.out).mono ?_
         (case side1 => repeat (first | exact (Kd.R_reads' HO171.out).2.2 | (with_reducible refine Kd.C_alloc ?_ _) | (with_reducible refine Kd.C_drewN ?_ _) | (with_reducible refine Kd.C_drew ?_)))
         (case side2 => exact (Kd.R_reads' HO171.out).2.1)
         rintro e w' ⟨rfl, ⟨nd, rfl⟩⟩
         refine ⟨_, rfl, ?_⟩
         refine hK.out _ _ ⟨(blk_cell BK162.out 0).trans rfl, (blk_cell BK162.out 1).trans rfl, (blk_cell BK162.out 2).trans rfl, (blk_cell BK162.out 3).trans rfl, (blk_cell BK162.out 4).trans rfl, (blk_cell BK162.out 5).trans rfl, (blk_cell BK162.out 6).trans rfl, (blk_cell BK162.out 7).trans rfl, (blk_cell BK162.out 8).trans rfl⟩ (fun hHeld => ?_)
         clear hK K
         refine nm_ 25 ?_
         refine pu_ 16 26 (lb_ 39 131071) rfl rfl (ao_ HT_) ?_
         refine pu_ 17 27 (lb_ 39 262143) rfl rfl (ao_ HT_) ?_
         refine pu_ 18 28 (lb_ 39 524287) rfl rfl (ao_ HT_) ?_
         refine tk_ 19 29 (lb_ 39 1048575) rfl rfl (take_ofW HT_.out HW_.out (by kernel_rfl)) hHeld ?_
         refine tk_ 21 31 (lb_ 39 3145727) rfl rfl (take_ofW HT_.out HW_.out (by kernel_rfl)) hHeld ?_
         refine one_ (i := 20) (N := some 30) #[true, true, true, true, true, true, true, true, true, true, true, true, true, true, true, true, true, true, true, true, true, true, false, false, false, false, false, false, false, false, false, false, false, false, false, false, false, false, false] rfl rfl (one_of HT_.out (by kernel_rfl)) (by decide) (fun K hK => ?_)
         refine gq_ Tryd.func44 (by kernel_rfl) rfl #[.agg #[.bool a0_0, .bool a0_1, .bool a0_2, .bool a0_3, .bool a0_4, .bool a0_5, .bool a0_6, .bool a0_7, .int .i64 a0_8]] (by rfl) rfl rfl ?_
         with_reducible refine (conv_blocks.calls a0_0 a0_1 a0_2 a0_3 a0_4 a0_5 a0_6 a0_7 a0_8 t173 _ A30.out).mono ?_
         rintro e w54 ⟨rfl, hb⟩
         refine ⟨_, rfl, ?_⟩
         have n0_ := Aside0.mk (Kd.R_below (by (with_reducible repeat (first | apply Kd.R_alloc | apply Kd.R_drewN | apply Kd.R_drew)); exact HO167.out) hb)
         have n1_ := Aside0.mk (Kd.R_below (by (with_reducible repeat (first | apply Kd.R_alloc | apply Kd.R_drewN | apply Kd.R_drew)); exact HO171.out) hb)
         have n2_ := bb_ BK162 hb
         have n3_ := bs_ HB hb
         clear HO167
         clear HO171
         clear BK162
         clear HB
         have HO167 := n0_
         have HO171 := n1_
         have BK162 := n2_
         have HB := n3_
         clear n0_ n1_ n2_ n3_
         (try clear hb)
         refine hK.out _ _ ⟨(blk_cell BK162.out 0).trans rfl, (blk_cell BK162.out 1).trans rfl, (blk_cell BK162.out 2).trans rfl, (blk_cell BK162.out 3).trans rfl, (blk_cell BK162.out 4).trans rfl, (blk_cell BK162.out 5).trans rfl, (blk_cell BK162.out 6).trans rfl, (blk_cell BK162.out 7).trans rfl, (blk_cell BK162.out 8).trans rfl⟩ (fun hHeld => ?_)
         clear hK K
         refine nm_ 30 ?_
         refine one_ (i := 22) (N := some 32) #[true, true, true, true, true, true, true, true, true, true, true, true, true, true, true, true, true, true, true, true, true, true, true, false, false, false, false, false, false, false, false, false, false, false, false, false, false, false, false] rfl rfl (one_of HT_.out (by kernel_rfl)) (by decide) (fun K hK => ?_)
         refine gq_ Tryd.func45 (by kernel_rfl) rfl #[.agg #[.bool a0_0, .bool a0_1, .bool a0_2, .bool a0_3, .bool a0_4, .bool a0_5, .bool a0_6, .bool a0_7, .int .i64 a0_8]] (by rfl) rfl rfl ?_
         with_reducible refine (conv_unblocks.calls a0_0 a0_1 a0_2 a0_3 a0_4 a0_5 a0_6 a0_7 a0_8 t174 _ A31.out).mono ?_
         rintro e w55 ⟨rfl, hb⟩
         refine ⟨_, rfl, ?_⟩
         have n0_ := Aside0.mk (Kd.R_below (by (with_reducible repeat (first | apply Kd.R_alloc | apply Kd.R_drewN | apply Kd.R_drew)); exact HO167.out) hb)
         have n1_ := Aside0.mk (Kd.R_below (by (with_reducible repeat (first | apply Kd.R_alloc | apply Kd.R_drewN | apply Kd.R_drew)); exact HO171.out) hb)
         have n2_ := bb_ BK162 hb
         have n3_ := bs_ HB hb
         clear HO167
         clear HO171
         clear BK162
         clear HB
         have HO167 := n0_
         have HO171 := n1_
         have BK162 := n2_
         have HB := n3_
         clear n0_ n1_ n2_ n3_
         (try clear hb)
         refine hK.out _ _ ⟨(blk_cell BK162.out 0).trans rfl, (blk_cell BK162.out 1).trans rfl, (blk_cell BK162.out 2).trans rfl, (blk_cell BK162.out 3).trans rfl, (blk_cell BK162.out 4).trans rfl, (blk_cell BK162.out 5).trans rfl, (blk_cell BK162.out 6).trans rfl, (blk_cell BK162.out 7).trans rfl, (blk_cell BK162.out 8).trans rfl⟩ (fun hHeld => ?_)
         clear hK K
         refine nm_ 32 ?_
         refine one_ (i := 23) (N := some 33) #[true, true, true, true, true, true, true, true, true, true, true, true, true, true, true, true, true, true, true, true, true, true, true, true, false, false, false, false, false, false, false, false, false, false, false, false, false, false, false] rfl rfl (one_of HT_.out (by kernel_rfl)) (by decide) (fun K hK => ?_)
         refine Kd.R_lit_step Kd.bool _ 4 ?hg (N := 33) ?hd (xs := ([t173, t174] : List Bool)) (inner := [.bool t173, .bool t174]) (ok := fun _ => True) (okp := fun _ => True) ?hr ?hp (fun _ hk => hk) trivial (Below.refl _ _) (Nat.le_refl _) (by simp) ?_; (case hd => rfl); (case hg => rfl); (case hr => first | (go_simp; done) | (go_simp; rfl)); (case hp => exact (Reps.one (show Kd.M Kd.bool _ _ _ t173 [.bool t173] from rfl) (Reps.one (show Kd.M Kd.bool _ _ _ t174 [.bool t174] from rfl) (Reps.none _ _))))
         intro v176 w56 ho57 hb hg_ hnew_
         clear hg_ hnew_
         (first | rw [← Ny175.out] at ho57 | (simp only [Int.reduceToNat] at ho57; rw [← Ny175.out] at ho57))
         have n0_ := Aside0.mk (Kd.R_elder' (by (with_reducible repeat (first | apply Kd.R_alloc | apply Kd.R_drewN | apply Kd.R_drew)); exact HO167.out) (Kd.R_base ho57) hb)
         have n1_ := Aside0.mk (Kd.R_elder' (by (with_reducible repeat (first | apply Kd.R_alloc | apply Kd.R_drewN | apply Kd.R_drew)); exact HO171.out) (Kd.R_base ho57) hb)
         have n2_ := Aside0.mk (Kd.R_lower (Kd.R_new' (Kd.R_new' ho57 (Kd.R_lt (by (with_reducible repeat (first | apply Kd.R_alloc | apply Kd.R_drewN | apply Kd.R_drew)); exact HO167.out))) (Kd.R_lt (by (with_reducible repeat (first | apply Kd.R_alloc | apply Kd.R_drewN | apply Kd.R_drew)); exact HO171.out))) (below_size (bh_ HB)))
         have n3_ := bb_ BK162 hb
         have n4_ := bs_ HB hb
         clear HO167
         clear HO171
         clear BK162
         clear HB
         have HO167 := n0_
         have HO171 := n1_
         have HO177 := n2_
         have BK162 := n3_
         have HB := n4_
         clear n0_ n1_ n2_ n3_ n4_
         clear hb ho57
         obtain ⟨Ao58, co58, eo58⟩ := Kd.R_slice HO177.out
         (first | subst eo58 | (injection eo58 with f1_ f2_ f3_; have f4_ := f1_.symm; have f5_ := f3_.symm; clear f1_ f2_ f3_; subst f4_; subst f5_))
         refine hK.out _ _ ⟨(blk_cell BK162.out 0).trans rfl, (blk_cell BK162.out 1).trans rfl, (blk_cell BK162.out 2).trans rfl, (blk_cell BK162.out 3).trans rfl, (blk_cell BK162.out 4).trans rfl, (blk_cell BK162.out 5).trans rfl, (blk_cell BK162.out 6).trans rfl, (blk_cell BK162.out 7).trans rfl, (blk_cell BK162.out 8).trans rfl⟩ (fun hHeld => ?_)
         clear hK K
         refine nm_ 33 ?_
         refine one_ (i := 24) (N := some 34) #[true, true, true, true, true, true, true, true, true, true, true, true, true, true, true, true, true, true, true, true, true, true, true, true, true, false, false, false, false, false, false, false, false, false, false, false, false, false, false] rfl rfl (one_of HT_.out (by kernel_rfl)) (by decide) (fun K hK => ?_)
         refine gq_ Tryd.func46 (by kernel_rfl) rfl #[.slice Ao58 y175.length co58] (by rfl) rfl rfl ?_
         with_reducible refine (conv_two.calls kj12 _ _ y175 false _ ?side1 ?side2 A32.out).mono ?_
         (case side1 => repeat (first | exact (Kd.R_reads' HO177.out).2.2 | (with_reducible refine Kd.C_alloc ?_ _) | (with_reducible refine Kd.C_drewN ?_ _) | (with_reducible refine Kd.C_drew ?_)))
         (case side2 => exact (Kd.R_reads' HO177.out).2.1)
         rintro e w' ⟨rfl, ⟨nd, rfl⟩⟩
         refine ⟨_, rfl, ?_⟩
         refine hK.out _ _ ⟨(blk_cell BK162.out 0).trans rfl, (blk_cell BK162.out 1).trans rfl, (blk_cell BK162.out 2).trans rfl, (blk_cell BK162.out 3).trans rfl, (blk_cell BK162.out 4).trans rfl, (blk_cell BK162.out 5).trans rfl, (blk_cell BK162.out 6).trans rfl, (blk_cell BK162.out 7).trans rfl, (blk_cell BK162.out 8).trans rfl⟩ (fun hHeld => ?_)
         clear hK K
         refine nm_ 34 ?_
         refine pu_ 25 35 (lb_ 39 67108863) rfl rfl (ao_ HT_) ?_
         refine pu_ 26 36 (lb_ 39 134217727) rfl rfl (ao_ HT_) ?_
         refine pu_ 27 37 (lb_ 39 268435455) rfl rfl (ao_ HT_) ?_
         refine pu_ 28 38 (lb_ 39 536870911) rfl rfl (ao_ HT_) ?_
         refine pu_ 30 40 (lb_ 39 1610612735) rfl rfl (ao_ HT_) ?_
         refine tk_ 29 39 (lb_ 39 2147483647) rfl rfl (take_ofW HT_.out HW_.out (by kernel_rfl)) hHeld ?_
         refine pu_ 31 41 (lb_ 39 4294967295) rfl rfl (ao_ HT_) ?_
         refine pu_ 32 42 (lb_ 39 8589934591) rfl rfl (ao_ HT_) ?_
         refine pu_ 33 43 (lb_ 39 17179869183) rfl rfl (ao_ HT_) ?_
         refine pu_ 34 44 (lb_ 39 34359738367) rfl rfl (ao_ HT_) ?_
         refine tk_ 35 45 (lb_ 39 68719476735) rfl rfl (take_ofW HT_.out HW_.out (by kernel_rfl)) hHeld ?_
         refine pu_ 36 46 (lb_ 39 137438953471) rfl rfl (ao_ HT_) ?_
         refine pu_ 37 47 (lb_ 39 274877906943) rfl rfl (ao_ HT_) ?_
         refine pu_ 38 2 (lb_ 39 549755813887) rfl rfl (ao_ HT_) ?_
         refine done_ (done_of HT_.out (by kernel_rfl)) ?_
         try go_wp2
         go_ret
         exact ⟨by first | rfl | (simp [errW_none, errW_some] <;> rfl) | (simp [*, errW_none, errW_some] <;> rfl), bh_ HB⟩
        ·rw [if_neg c46] at H
         have c46b0 : decide (x3_12 ≤ a0_8) = false := decide_eq_false c46
         clear c46
         obtain rfl := Option.some.inj H
         try go_wp2
         replace BK162 := Aside0.mk (blk_drew BK162.out)
         replace HB := Aside0.mk (below_drew1 HB.out)
         refine start_ (n := 39) (S := fun w' => w'.cell? ⟨gb162, 0, none⟩ = some (.bool a0_0) ∧ w'.cell? ⟨gb162, 1, none⟩ = some (.bool a0_1) ∧ w'.cell? ⟨gb162, 2, none⟩ = some (.bool a0_2) ∧ w'.cell? ⟨gb162, 3, none⟩ = some (.bool a0_3) ∧ w'.cell? ⟨gb162, 4, none⟩ = some (.bool a0_4) ∧ w'.cell? ⟨gb162, 5, none⟩ = some (.bool a0_5) ∧ w'.cell? ⟨gb162, 6, none⟩ = some (.bool a0_6) ∧ w'.cell? ⟨gb162, 7, none⟩ = some (.bool a0_7) ∧ w'.cell? ⟨gb162, 8, none⟩ = some (.int .i64 a0_8)) (ds := []) #[false, false, false, false, false, false, false, false, false, false, false, false, false, false, false, false, false, false, false, false, false, false, false, false, false, false, false, false, false, false, false, false, false, false, false, false, false, false, false] (by kernel_rfl) rfl rfl ⟨(blk_cell BK162.out 0).trans rfl, (blk_cell BK162.out 1).trans rfl, (blk_cell BK162.out 2).trans rfl, (blk_cell BK162.out 3).trans rfl, (blk_cell BK162.out 4).trans rfl, (blk_cell BK162.out 5).trans rfl, (blk_cell BK162.out 6).trans rfl, (blk_cell BK162.out 7).trans rfl, (blk_cell BK162.out 8).trans rfl⟩ (fun hHeld => ?_); refine with_tabW conv_May.tab4 conv_May.bits4 (fun HT_ HW_ => ?_)
         generalize wc.drew = w59 at BK162 HB hHeld ⊢
         refine pu_ 0 10 (lb_ 39 1) rfl rfl (ao_ HT_) ?_
         refine pu_ 2 12 (lb_ 39 5) rfl rfl (ao_ HT_) ?_
         refine pu_ 4 14 (lb_ 39 21) rfl rfl (ao_ HT_) ?_
         refine tk_ 1 11 (lb_ 39 23) rfl rfl (take_ofW HT_.out HW_.out (by kernel_rfl)) hHeld ?_
         refine tk_ 3 13 (lb_ 39 31) rfl rfl (take_ofW HT_.out HW_.out (by kernel_rfl)) hHeld ?_
         refine tk_ 5 15 (lb_ 39 63) rfl rfl (take_ofW HT_.out HW_.out (by kernel_rfl)) hHeld ?_
         refine one_ (i := 6) (N := some 16) #[true, true, true, true, true, true, true, false, false, false, false, false, false, false, false, false, false, false, false, false, false, false, false, false, false, false, false, false, false, false, false, false, false, false, false, false, false, false, false] rfl rfl (one_of HT_.out (by kernel_rfl)) (by decide) (fun K hK => ?_)
         refine Kd.R_lit_step Kd.bool _ 4 ?hg (N := 16) ?hd (xs := ([a0_5, a0_6, a0_7] : List Bool)) (inner := [.bool a0_5, .bool a0_6, .bool a0_7]) (ok := fun _ => True) (okp := fun _ => True) ?hr ?hp (fun _ hk => hk) trivial (Below.refl _ _) (Nat.le_refl _) (by simp) ?_; (case hd => rfl); (case hg => rfl); (case hr => first | (go_simp; done) | (go_simp; rfl)); (case hp => exact (Reps.one (show Kd.M Kd.bool _ _ _ a0_5 [.bool a0_5] from rfl) (Reps.one (show Kd.M Kd.bool _ _ _ a0_6 [.bool a0_6] from rfl) (Reps.one (show Kd.M Kd.bool _ _ _ a0_7 [.bool a0_7] from rfl) (Reps.none _ _)))))
         intro v166 w60 ho61 hb hg_ hnew_
         clear hg_ hnew_
         (first | rw [← Ny165.out] at ho61 | (simp only [Int.reduceToNat] at ho61; rw [← Ny165.out] at ho61))
         have HO167 := Aside0.mk (Kd.R_lower ho61 (below_size (bh_ HB)))
         replace BK162 := bb_ BK162 hb
         replace HB := bs_ HB hb
         clear hb ho61
         obtain ⟨Ao62, co62, eo62⟩ := Kd.R_slice HO167.out
         (first | subst eo62 | (injection eo62 with f1_ f2_ f3_; have f4_ := f1_.symm; have f5_ := f3_.symm; clear f1_ f2_ f3_; subst f4_; subst f5_))
         refine hK.out _ _ ⟨(blk_cell BK162.out 0).trans rfl, (blk_cell BK162.out 1).trans rfl, (blk_cell BK162.out 2).trans rfl, (blk_cell BK162.out 3).trans rfl, (blk_cell BK162.out 4).trans rfl, (blk_cell BK162.out 5).trans rfl, (blk_cell BK162.out 6).trans rfl, (blk_cell BK162.out 7).trans rfl, (blk_cell BK162.out 8).trans rfl⟩ (fun hHeld => ?_)
         clear hK K
         refine nm_ 16 ?_
         refine one_ (i := 7) (N := some 17) #[true, true, true, true, true, true, true, true, false, false, false, false, false, false, false, false, false, false, false, false, false, false, false, false, false, false, false, false, false, false, false, false, false, false, false, false, false, false, false] rfl rfl (one_of HT_.out (by kernel_rfl)) (by decide) (fun K hK => ?_)
         refine gq_ Tryd.func46 (by kernel_rfl) rfl #[.slice Ao62 y165.length co62] (by rfl) rfl rfl ?_
         with_reducible refine (conv_two.calls kj12 _ _ y165 false _ ?side1 ?side2 A15.out).mono ?_
         (case side1 => repeat (first | exact (Kd.R_reads' HO167.out).2.2 | (with_reducible refine Kd.C_alloc ?_ _) | (with_reducible refine Kd.C_drewN ?_ _) | (with_reducible refine Kd.C_drew ?_)))
         (case side2 => exact (Kd.R_reads' HO167.out).2.1)
         rintro e w' ⟨rfl, ⟨nd, rfl⟩⟩
         refine ⟨_, rfl, ?_⟩
         refine hK.out _ _ ⟨(blk_cell BK162.out 0).trans rfl, (blk_cell BK162.out 1).trans rfl, (blk_cell BK162.out 2).trans rfl, (blk_cell BK162.out 3).trans rfl, (blk_cell BK162.out 4).trans rfl, (blk_cell BK162.out 5).trans rfl, (blk_cell BK162.out 6).trans rfl, (blk_cell BK162.out 7).trans rfl, (blk_cell BK162.out 8).trans rfl⟩ (fun hHeld => ?_)
         clear hK K
         refine nm_ 17 ?_
         refine pu_ 8 18 (lb_ 39 511) rfl rfl (ao_ HT_) ?_
         refine pu_ 9 19 (lb_ 39 1023) rfl rfl (ao_ HT_) ?_
         refine pu_ 10 20 (lb_ 39 2047) rfl rfl (ao_ HT_) ?_
         refine pu_ 12 22 (lb_ 39 6143) rfl rfl (ao_ HT_) ?_
         refine tk_ 11 21 (lb_ 39 8191) rfl rfl (take_ofW HT_.out HW_.out (by kernel_rfl)) hHeld ?_
         refine tk_ 13 23 (lb_ 39 16383) rfl rfl (take_ofW HT_.out HW_.out (by kernel_rfl)) hHeld ?_
         refine one_ (i := 14) (N := some 24) #[true, true, true, true, true, true, true, true, true, true, true, true, true, true, true, false, false, false, false, false, false, false, false, false, false, false, false, false, false, false, false, false, false, false, false, false, false, false, false] rfl rfl (one_of HT_.out (by kernel_rfl)) (by decide) (fun K hK => ?_)
         refine Kd.R_lit_step Kd.bool _ 4 ?hg (N := 24) ?hd (xs := ([a0_3, a0_4] : List Bool)) (inner := [.bool a0_3, .bool a0_4]) (ok := fun _ => True) (okp := fun _ => True) ?hr ?hp (fun _ hk => hk) trivial (Below.refl _ _) (Nat.le_refl _) (by simp) ?_; (case hd => rfl); (case hg => rfl); (case hr => first | (go_simp; done) | (go_simp; rfl)); (case hp => exact (Reps.one (show Kd.M Kd.bool _ _ _ a0_3 [.bool a0_3] from rfl) (Reps.one (show Kd.M Kd.bool _ _ _ a0_4 [.bool a0_4] from rfl) (Reps.none _ _))))
         intro v170 w63 ho64 hb hg_ hnew_
         clear hg_ hnew_
         (first | rw [← Ny169.out] at ho64 | (simp only [Int.reduceToNat] at ho64; rw [← Ny169.out] at ho64))
         have n0_ := Aside0.mk (Kd.R_elder' (by (with_reducible repeat (first | apply Kd.R_alloc | apply Kd.R_drewN | apply Kd.R_drew)); exact HO167.out) (Kd.R_base ho64) hb)
         have n1_ := Aside0.mk (Kd.R_lower (Kd.R_new' ho64 (Kd.R_lt (by (with_reducible repeat (first | apply Kd.R_alloc | apply Kd.R_drewN | apply Kd.R_drew)); exact HO167.out))) (below_size (bh_ HB)))
         have n2_ := bb_ BK162 hb
         have n3_ := bs_ HB hb
         clear HO167
         clear BK162
         clear HB
         have HO167 := n0_
         have HO171 := n1_
         have BK162 := n2_
         have HB := n3_
         clear n0_ n1_ n2_ n3_
         clear hb ho64
         obtain ⟨Ao65, co65, eo65⟩ := Kd.R_slice HO171.out
         (first | subst eo65 | (injection eo65 with f1_ f2_ f3_; have f4_ := f1_.symm; have f5_ := f3_.symm; clear f1_ f2_ f3_; subst f4_; subst f5_))
         refine hK.out _ _ ⟨(blk_cell BK162.out 0).trans rfl, (blk_cell BK162.out 1).trans rfl, (blk_cell BK162.out 2).trans rfl, (blk_cell BK162.out 3).trans rfl, (blk_cell BK162.out 4).trans rfl, (blk_cell BK162.out 5).trans rfl, (blk_cell BK162.out 6).trans rfl, (blk_cell BK162.out 7).trans rfl, (blk_cell BK162.out 8).trans rfl⟩ (fun hHeld => ?_)
         clear hK K
         refine nm_ 24 ?_
         refine one_ (i := 15) (N := some 25) #[true, true, true, true, true, true, true, true, true, true, true, true, true, true, true, true, false, false, false, false, false, false, false, false, false, false, false, false, false, false, false, false, false, false, false, false, false, false, false] rfl rfl (one_of HT_.out (by kernel_rfl)) (by decide) (fun K hK => ?_)
         refine gq_ Tryd.func46 (by kernel_rfl) rfl #[.slice Ao65 y169.length co65] (by rfl) rfl rfl ?_
         with_reducible refine (conv_two.calls kj12 _ _ y169 false _ ?side1 ?side2 A21.out).mono ?_
         (case side1 => repeat (first | exact (Kd.R_reads' HO171.out).2.2 | (with_reducible refine Kd.C_alloc ?_ _) | (with_reducible refine Kd.C_drewN ?_ _) | (with_reducible refine Kd.C_drew ?_)))
         (case side2 => exact (Kd.R_reads' HO171.out).2.1)
         rintro e w' ⟨rfl, ⟨nd, rfl⟩⟩
         refine ⟨_, rfl, ?_⟩
         refine hK.out _ _ ⟨(blk_cell BK162.out 0).trans rfl, (blk_cell BK162.out 1).trans rfl, (blk_cell BK162.out 2).trans rfl, (blk_cell BK162.out 3).trans rfl, (blk_cell BK162.out 4).trans rfl, (blk_cell BK162.out 5).trans rfl, (blk_cell BK162.out 6).trans rfl, (blk_cell BK162.out 7).trans rfl, (blk_cell BK162.out 8).trans rfl⟩ (fun hHeld => ?_)
         clear hK K
         refine nm_ 25 ?_
         refine pu_ 16 26 (lb_ 39 131071) rfl rfl (ao_ HT_) ?_
         refine pu_ 17 27 (lb_ 39 262143) rfl rfl (ao_ HT_) ?_
         refine pu_ 18 28 (lb_ 39 524287) rfl rfl (ao_ HT_) ?_
         refine tk_ 19 29 (lb_ 39 1048575) rfl rfl (take_ofW HT_.out HW_.out (by kernel_rfl)) hHeld ?_
         refine tk_ 21 31 (lb_ 39 3145727) rfl rfl (take_ofW HT_.out HW_.out (by kernel_rfl)) hHeld ?_
         refine one_ (i := 20) (N := some 30) #[true, true, true, true, true, true, true, true, true, true, true, true, true, true, true, true, true, true, true, true, true, true, false, false, false, false, false, false, false, false, false, false, false, false, false, false, false, false, false] rfl rfl (one_of HT_.out (by kernel_rfl)) (by decide) (fun K hK => ?_)
         refine gq_ Tryd.func44 (by kernel_rfl) rfl #[.agg #[.bool a0_0, .bool a0_1, .bool a0_2, .bool a0_3, .bool a0_4, .bool a0_5, .bool a0_6, .bool a0_7, .int .i64 a0_8]] (by rfl) rfl rfl ?_
         with_reducible refine (conv_blocks.calls a0_0 a0_1 a0_2 a0_3 a0_4 a0_5 a0_6 a0_7 a0_8 t173 _ A30.out).mono ?_
         rintro e w66 ⟨rfl, hb⟩
         refine ⟨_, rfl, ?_⟩
         have n0_ := Aside0.mk (Kd.R_below (by (with_reducible repeat (first | apply Kd.R_alloc | apply Kd.R_drewN | apply Kd.R_drew)); exact HO167.out) hb)
         have n1_ := Aside0.mk (Kd.R_below (by (with_reducible repeat (first | apply Kd.R_alloc | apply Kd.R_drewN | apply Kd.R_drew)); exact HO171.out) hb)
         have n2_ := bb_ BK162 hb
         have n3_ := bs_ HB hb
         clear HO167
         clear HO171
         clear BK162
         clear HB
         have HO167 := n0_
         have HO171 := n1_
         have BK162 := n2_
         have HB := n3_
         clear n0_ n1_ n2_ n3_
         (try clear hb)
         refine hK.out _ _ ⟨(blk_cell BK162.out 0).trans rfl, (blk_cell BK162.out 1).trans rfl, (blk_cell BK162.out 2).trans rfl, (blk_cell BK162.out 3).trans rfl, (blk_cell BK162.out 4).trans rfl, (blk_cell BK162.out 5).trans rfl, (blk_cell BK162.out 6).trans rfl, (blk_cell BK162.out 7).trans rfl, (blk_cell BK162.out 8).trans rfl⟩ (fun hHeld => ?_)
         clear hK K
         refine nm_ 30 ?_
         refine one_ (i := 22) (N := some 32) #[true, true, true, true, true, true, true, true, true, true, true, true, true, true, true, true, true, true, true, true, true, true, true, false, false, false, false, false, false, false, false, false, false, false, false, false, false, false, false] rfl rfl (one_of HT_.out (by kernel_rfl)) (by decide) (fun K hK => ?_)
         refine gq_ Tryd.func45 (by kernel_rfl) rfl #[.agg #[.bool a0_0, .bool a0_1, .bool a0_2, .bool a0_3, .bool a0_4, .bool a0_5, .bool a0_6, .bool a0_7, .int .i64 a0_8]] (by rfl) rfl rfl ?_
         with_reducible refine (conv_unblocks.calls a0_0 a0_1 a0_2 a0_3 a0_4 a0_5 a0_6 a0_7 a0_8 t174 _ A31.out).mono ?_
         rintro e w67 ⟨rfl, hb⟩
         refine ⟨_, rfl, ?_⟩
         have n0_ := Aside0.mk (Kd.R_below (by (with_reducible repeat (first | apply Kd.R_alloc | apply Kd.R_drewN | apply Kd.R_drew)); exact HO167.out) hb)
         have n1_ := Aside0.mk (Kd.R_below (by (with_reducible repeat (first | apply Kd.R_alloc | apply Kd.R_drewN | apply Kd.R_drew)); exact HO171.out) hb)
         have n2_ := bb_ BK162 hb
         have n3_ := bs_ HB hb
         clear HO167
         clear HO171
         clear BK162
         clear HB
         have HO167 := n0_
         have HO171 := n1_
         have BK162 := n2_
         have HB := n3_
         clear n0_ n1_ n2_ n3_
         (try clear hb)
         refine hK.out _ _ ⟨(blk_cell BK162.out 0).trans rfl, (blk_cell BK162.out 1).trans rfl, (blk_cell BK162.out 2).trans rfl, (blk_cell BK162.out 3).trans rfl, (blk_cell BK162.out 4).trans rfl, (blk_cell BK162.out 5).trans rfl, (blk_cell BK162.out 6).trans rfl, (blk_cell BK162.out 7).trans rfl, (blk_cell BK162.out 8).trans rfl⟩ (fun hHeld => ?_)
         clear hK K
         refine nm_ 32 ?_
         refine one_ (i := 23) (N := some 33) #[true, true, true, true, true, true, true, true, true, true, true, true, true, true, true, true, true, true, true, true, true, true, true, true, false, false, false, false, false, false, false, false, false, false, false, false, false, false, false] rfl rfl (one_of HT_.out (by kernel_rfl)) (by decide) (fun K hK => ?_)
         refine Kd.R_lit_step Kd.bool _ 4 ?hg (N := 33) ?hd (xs := ([t173, t174] : List Bool)) (inner := [.bool t173, .bool t174]) (ok := fun _ => True) (okp := fun _ => True) ?hr ?hp (fun _ hk => hk) trivial (Below.refl _ _) (Nat.le_refl _) (by simp) ?_; (case hd => rfl); (case hg => rfl); (case hr => first | (go_simp; done) | (go_simp; rfl)); (case hp => exact (Reps.one (show Kd.M Kd.bool _ _ _ t173 [.bool t173] from rfl) (Reps.one (show Kd.M Kd.bool _ _ _ t174 [.bool t174] from rfl) (Reps.none _ _))))
         intro v176 w68 ho69 hb hg_ hnew_
         clear hg_ hnew_
         (first | rw [← Ny175.out] at ho69 | (simp only [Int.reduceToNat] at ho69; rw [← Ny175.out] at ho69))
         have n0_ := Aside0.mk (Kd.R_elder' (by (with_reducible repeat (first | apply Kd.R_alloc | apply Kd.R_drewN | apply Kd.R_drew)); exact HO167.out) (Kd.R_base ho69) hb)
         have n1_ := Aside0.mk (Kd.R_elder' (by (with_reducible repeat (first | apply Kd.R_alloc | apply Kd.R_drewN | apply Kd.R_drew)); exact HO171.out) (Kd.R_base ho69) hb)
         have n2_ := Aside0.mk (Kd.R_lower (Kd.R_new' (Kd.R_new' ho69 (Kd.R_lt (by (with_reducible repeat (first | apply Kd.R_alloc | apply Kd.R_drewN | apply Kd.R_drew)); exact HO167.out))) (Kd.R_lt (by (with_reducible repeat (first | apply Kd.R_alloc | apply Kd.R_drewN | apply Kd.R_drew)); exact HO171.out))) (below_size (bh_ HB)))
         have n3_ := bb_ BK162 hb
         have n4_ := bs_ HB hb
         clear HO167
         clear HO171
         clear BK162
         clear HB
         have HO167 := n0_
         have HO171 := n1_
         have HO177 := n2_
         have BK162 := n3_
         have HB := n4_
         clear n0_ n1_ n2_ n3_ n4_
         clear hb ho69
         obtain ⟨Ao70, co70, eo70⟩ := Kd.R_slice HO177.out
         (first | subst eo70 | (injection eo70 with f1_ f2_ f3_; have f4_ := f1_.symm; have f5_ := f3_.symm; clear f1_ f2_ f3_; subst f4_; subst f5_))
         refine hK.out _ _ ⟨(blk_cell BK162.out 0).trans rfl, (blk_cell BK162.out 1).trans rfl, (blk_cell BK162.out 2).trans rfl, (blk_cell BK162.out 3).trans rfl, (blk_cell BK162.out 4).trans rfl, (blk_cell BK162.out 5).trans rfl, (blk_cell BK162.out 6).trans rfl, (blk_cell BK162.out 7).trans rfl, (blk_cell BK162.out 8).trans rfl⟩ (fun hHeld => ?_)
         clear hK K
         refine nm_ 33 ?_
         refine one_ (i := 24) (N := some 34) #[true, true, true, true, true, true, true, true, true, true, true, true, true, true, true, true, true, true, true, true, true, true, true, true, true, false, false, false, false, false, false, false, false, false, false, false, false, false, false] rfl rfl (one_of HT_.out (by kernel_rfl)) (by decide) (fun K hK => ?_)
         refine gq_ Tryd.func46 (by kernel_rfl) rfl #[.slice Ao70 y175.length co70] (by rfl) rfl rfl ?_
         with_reducible refine (conv_two.calls kj12 _ _ y175 false _ ?side1 ?side2 A32.out).mono ?_
         (case side1 => repeat (first | exact (Kd.R_reads' HO177.out).2.2 | (with_reducible refine Kd.C_alloc ?_ _) | (with_reducible refine Kd.C_drewN ?_ _) | (with_reducible refine Kd.C_drew ?_)))
         (case side2 => exact (Kd.R_reads' HO177.out).2.1)
         rintro e w' ⟨rfl, ⟨nd, rfl⟩⟩
         refine ⟨_, rfl, ?_⟩
         refine hK.out _ _ ⟨(blk_cell BK162.out 0).trans rfl, (blk_cell BK162.out 1).trans rfl, (blk_cell BK162.out 2).trans rfl, (blk_cell BK162.out 3).trans rfl, (blk_cell BK162.out 4).trans rfl, (blk_cell BK162.out 5).trans rfl, (blk_cell BK162.out 6).trans rfl, (blk_cell BK162.out 7).trans rfl, (blk_cell BK162.out 8).trans rfl⟩ (fun hHeld => ?_)
         clear hK K
         refine nm_ 34 ?_
         refine pu_ 25 35 (lb_ 39 67108863) rfl rfl (ao_ HT_) ?_
         refine pu_ 26 36 (lb_ 39 134217727) rfl rfl (ao_ HT_) ?_
         refine pu_ 27 37 (lb_ 39 268435455) rfl rfl (ao_ HT_) ?_
         refine pu_ 28 38 (lb_ 39 536870911) rfl rfl (ao_ HT_) ?_
         refine pu_ 30 40 (lb_ 39 1610612735) rfl rfl (ao_ HT_) ?_
         refine tk_ 29 39 (lb_ 39 2147483647) rfl rfl (take_ofW HT_.out HW_.out (by kernel_rfl)) hHeld ?_
         refine pu_ 31 41 (lb_ 39 4294967295) rfl rfl (ao_ HT_) ?_
         refine pu_ 32 42 (lb_ 39 8589934591) rfl rfl (ao_ HT_) ?_
         refine pu_ 33 43 (lb_ 39 17179869183) rfl rfl (ao_ HT_) ?_
         refine pd_ 34 44 (lb_ 39 34359738367) rfl rfl (ao_ HT_) ?_
         refine pd_ 35 45 (lb_ 39 68719476735) rfl rfl (ao_ HT_) ?_
         refine pd_ 36 46 (lb_ 39 137438953471) rfl rfl (ao_ HT_) ?_
         refine pu_ 37 47 (lb_ 39 274877906943) rfl rfl (ao_ HT_) ?_
         refine pu_ 38 2 (lb_ 39 549755813887) rfl rfl (ao_ HT_) ?_
         refine done_ (done_of HT_.out (by kernel_rfl)) ?_
         try go_wp2
         go_ret
         exact ⟨by first | rfl | (simp [errW_none, errW_some] <;> rfl) | (simp [*, errW_none, errW_some] <;> rfl), bh_ HB⟩

end Go.Proofs.YtbmhfnncagncmaaDoor.P
