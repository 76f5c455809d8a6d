/- The walk of TallyApart: it returns true in whatever world holds the library's table. No conditions beyond the table. -/
import Derived.Test.YtabmegbapfajoaaDoorPx0
import Derived.Test.YtabmegbapfajoaaDoorPx1
import Derived.Test.YtabmegbapfajoaaDoorTalA
namespace Go.Proofs.YtabmegbapfajoaaDoor.P
open Go.RowKit Go.Proofs.YtabmegbapfajoaaDoorW.PrintWords Go.Proofs.YtabmegbapfajoaaDoorW.PrintLast
set_option linter.unusedVariables false
set_option linter.unusedSimpArgs false
def fullOf (k : Nat) : Int := if 5 < k then 1 else 0
theorem fullOf_range (k : Nat) : 0 ≤ fullOf k ∧ fullOf k ≤ 1 := by unfold fullOf; split <;> omega
theorem in_next (k : Nat) (hk : k ≤ 255) : tally_Counter_In.f (fullOf k) ((k : Int) - fullOf k) 0 0 0 k 5 = some (fullOf (k + 1), ((k + 1 : Nat) : Int) - fullOf (k + 1), 0, 0, 0) := by
  unfold tally_Counter_In.f
  have h := fullOf_range k
  by_cases c : (k : Int) = 5
  · have : k = 5 := by omega
    subst this
    decide +kernel
  · rw [if_neg c]
    have e : fullOf (k + 1) = fullOf k := by unfold fullOf; split <;> split <;> omega
    rw [e]
    have w1 : wrap64 ((k : Int) - fullOf k + 1) = (k : Int) - fullOf k + 1 := by unfold wrap64; omega
    rw [w1]
    refine congrArg some (Prod.ext rfl (Prod.ext ?_ rfl))
    simp only
    omega
theorem out_d (k : Nat) (hk : k ≤ 255) : tally_Counter_Out.f 0 0 k 0 0 7 7 = some (0, 0, ((k + 1 : Nat) : Int), 0, 0) := by
  unfold tally_Counter_Out.f
  rw [if_pos rfl]
  have w1 : wrap64 ((k : Int) + 1) = ((k + 1 : Nat) : Int) := by unfold wrap64; omega
  rw [w1]
theorem out_c (x y : Int) (k : Nat) (hk : k ≤ 255) : tally_Counter_Out.f x y 0 k 0 k (-1) = some (x, y, 0, ((k + 1 : Nat) : Int), 0) := by
  unfold tally_Counter_Out.f
  rw [if_neg (by omega)]
  have w1 : wrap64 ((k : Int) + 1) = ((k + 1 : Nat) : Int) := by unfold wrap64; omega
  rw [w1]
theorem far5 {w : World} {g g3 : Nat} {t : TypeId} {cs : Array Value} (h : w.heap[g]? = some (.cells cs t (0, 0))) (hn : g ≠ g3) (v0 v1 v2 v3 v4 : Value) : (((((w.setCell ⟨g3, 0, none⟩ v0).setCell ⟨g3, 1, none⟩ v1).setCell ⟨g3, 2, none⟩ v2).setCell ⟨g3, 3, none⟩ v3).setCell ⟨g3, 4, none⟩ v4).heap[g]? = some (.cells cs t (0, 0)) :=
  blk_far (blk_far (blk_far (blk_far (blk_far h hn _) hn _) hn _) hn _) hn _
set_option maxHeartbeats 8000000 in
set_option maxRecDepth 100000 in
theorem salvorlaw23_TallyApart.calls (n m : Nat) (hn : n ≤ 255) (hm : m ≤ 255) (w : World) (htab : TabAt w) : Calls Tryd.prog 5 #[.int .u8 n, .int .u8 m] w fun e w' => e = .returned (.bool true) ∧ Below w.heap.size w w' := by
  have HTAB := Aside0.mk htab
  clear htab
  have HB := Aside0.mk (Below.refl w.heap.size w)
  go_enter Tryd.func5, Tryd.ntmps5
  go_wp2_with (first
    | ((with_reducible refine gate_dst (N := 5) rfl ?_); refine box_e 5 #[.int .i64 0, .int .i64 0, .int .i64 0, .int .i64 0, .int .i64 0] 25 ?_; intro g hg w1 hbox hb; have GE := bg_ HB hg; have HI := Aside0.mk (show IsS25 w w1 g 0 0 0 0 0 from ⟨hbox, GE.out⟩); replace HB := bs_ HB hb; clear hb hbox hg)
    | ((with_reducible refine gate_dst (N := 6) rfl ?_); refine box_e 6 #[.int .i64 0, .int .i64 0, .int .i64 0, .int .i64 0, .int .i64 0] 25 ?_; intro g2 hg w2 hbox hb; have NE := Aside0.mk (show g ≠ g2 from by rw [hg]; exact Nat.ne_of_lt (blk_lt HI.out.1)); replace HI := Aside0.mk (HI.out.below hb); have GE2 := bg_ HB hg; have HJ := Aside0.mk (show IsS25 w w2 g2 0 0 0 0 0 from ⟨hbox, GE2.out⟩); replace HB := bs_ HB hb; clear hb hbox hg))
  go_loopw [7] (fun i wr => ∃ k : Nat, k ≤ n ∧ i = .int .i64 k ∧ Aside0 (IsS25 w wr g (fullOf k) ((k : Int) - fullOf k) 0 0 0) ∧ Aside0 (IsS25 w wr g2 0 0 0 0 0) ∧ Aside0 (Below w.heap.size w wr)) (fun i _ => n - (intOf i).toNat)
  case atStart => exact ⟨0, Nat.zero_le _, rfl, HI, HJ, HB⟩
  case round =>
    clear HI HJ HB
    obtain ⟨k, hk, rfl, HI, HJ, HB⟩ := hrel
    by_cases hlt : k < n
    · go_wp2_with (first
        | (go_at_call 6; (with_reducible refine (tally_Counter_In.calls _ (fullOf k) ((k : Int) - fullOf k) 0 0 0 k 5 _ _ _ _ _ w _ HI.out HB.out (in_next k (by omega))).mono ?_); rintro e w3 ⟨rfl, hi, hb, hk⟩; replace HI := Aside0.mk hi; replace HJ := Aside0.mk (show IsS25 w w3 g2 0 0 0 0 0 from ⟨hk.blk HJ.out.1 (Ne.symm NE.out) (by simp), HJ.out.2⟩); replace HB := Aside0.mk hb; clear hi hb hk))
      go_roundw
      case rel => exact ⟨k + 1, by omega, by go_num, HI, HJ, HB⟩
      case measure => simp [intOf]; omega
    · go_wp2_with (first
        | (go_at_call 9; (with_reducible refine (tally_Counter_Tally.calls _ (fullOf k) ((k : Int) - fullOf k) 0 0 0 (fullOf k) ((k : Int) - fullOf k) 0 0 0 (fullOf k) ((k : Int) - fullOf k) 0 0 0 w _ HI.out HB.out rfl).mono ?_); rintro e w4 ⟨rfl, hi, hb, hk⟩; replace HI := Aside0.mk hi; replace HJ := Aside0.mk (show IsS25 w w4 g2 0 0 0 0 0 from ⟨hk.blk HJ.out.1 (Ne.symm NE.out) (by simp), HJ.out.2⟩); replace HB := Aside0.mk hb; clear hi hb hk)
        | ((with_reducible refine gate_dst (N := 8) rfl ?_); refine box_e 8 #[.int .i64 0, .int .i64 0, .int .i64 0, .int .i64 0, .int .i64 0] 23 ?_; intro g3 hg w5 hbox hb; have BK := Aside0.mk hbox; have NE3 := Aside0.mk (show g ≠ g3 from by rw [hg]; exact Nat.ne_of_lt (blk_lt HI.out.1)); have NE4 := Aside0.mk (show g2 ≠ g3 from by rw [hg]; exact Nat.ne_of_lt (blk_lt HJ.out.1)); replace HI := Aside0.mk (HI.out.below hb); replace HJ := Aside0.mk (HJ.out.below hb); have GE3 := bg_ HB hg; replace HB := bs_ HB hb; clear hb hbox hg; have hf0 := blk_frozen BK.out 0; have hf1 := blk_frozen BK.out 1; have hf2 := blk_frozen BK.out 2; have hf3 := blk_frozen BK.out 3; have hf4 := blk_frozen BK.out 4; have hc0 : w5.cell? ⟨g3, 0, none⟩ = some (.int .i64 0) := (blk_cell BK.out 0).trans rfl; have hc1 : w5.cell? ⟨g3, 1, none⟩ = some (.int .i64 0) := (blk_cell BK.out 1).trans rfl; have hc2 : w5.cell? ⟨g3, 2, none⟩ = some (.int .i64 0) := (blk_cell BK.out 2).trans rfl; have hc3 : w5.cell? ⟨g3, 3, none⟩ = some (.int .i64 0) := (blk_cell BK.out 3).trans rfl; have hc4 : w5.cell? ⟨g3, 4, none⟩ = some (.int .i64 0) := (blk_cell BK.out 4).trans rfl))
      have BK6 := Aside0.mk (show (((((w5.setCell { block := g3, off := 0 } (Value.int IntKind.i64 (fullOf k))).setCell { block := g3, off := 1 } (Value.int IntKind.i64 ((k : Int) - fullOf k))).setCell { block := g3, off := 2 } (Value.int IntKind.i64 0)).setCell { block := g3, off := 3 } (Value.int IntKind.i64 0)).setCell { block := g3, off := 4 } (Value.int IntKind.i64 0)).heap[g3]? = some (.cells #[.int .i64 (fullOf k), .int .i64 ((k : Int) - fullOf k), .int .i64 0, .int .i64 0, .int .i64 0] 23 (0, 0)) from blk_set (blk_set (blk_set (blk_set (blk_set BK.out 0 _) 1 _) 2 _) 3 _) 4 _)
      have HI6 := Aside0.mk (show IsS25 w (((((w5.setCell { block := g3, off := 0 } (Value.int IntKind.i64 (fullOf k))).setCell { block := g3, off := 1 } (Value.int IntKind.i64 ((k : Int) - fullOf k))).setCell { block := g3, off := 2 } (Value.int IntKind.i64 0)).setCell { block := g3, off := 3 } (Value.int IntKind.i64 0)).setCell { block := g3, off := 4 } (Value.int IntKind.i64 0)) g (fullOf k) ((k : Int) - fullOf k) 0 0 0 from ⟨far5 HI.out.1 NE3.out _ _ _ _ _, HI.out.2⟩)
      have HJ6 := Aside0.mk (show IsS25 w (((((w5.setCell { block := g3, off := 0 } (Value.int IntKind.i64 (fullOf k))).setCell { block := g3, off := 1 } (Value.int IntKind.i64 ((k : Int) - fullOf k))).setCell { block := g3, off := 2 } (Value.int IntKind.i64 0)).setCell { block := g3, off := 3 } (Value.int IntKind.i64 0)).setCell { block := g3, off := 4 } (Value.int IntKind.i64 0)) g2 0 0 0 0 0 from ⟨far5 HJ.out.1 NE4.out _ _ _ _ _, HJ.out.2⟩)
      have HB6 := Aside0.mk (show Below w.heap.size w (((((w5.setCell { block := g3, off := 0 } (Value.int IntKind.i64 (fullOf k))).setCell { block := g3, off := 1 } (Value.int IntKind.i64 ((k : Int) - fullOf k))).setCell { block := g3, off := 2 } (Value.int IntKind.i64 0)).setCell { block := g3, off := 3 } (Value.int IntKind.i64 0)).setCell { block := g3, off := 4 } (Value.int IntKind.i64 0)) from bh_ HB)
      clear hf0 hf1 hf2 hf3 hf4 hc0 hc1 hc2 hc3 hc4 BK HI HJ HB
      generalize ((((w5.setCell { block := g3, off := 0 } (Value.int IntKind.i64 (fullOf k))).setCell { block := g3, off := 1 } (Value.int IntKind.i64 ((k : Int) - fullOf k))).setCell { block := g3, off := 2 } (Value.int IntKind.i64 0)).setCell { block := g3, off := 3 } (Value.int IntKind.i64 0)).setCell { block := g3, off := 4 } (Value.int IntKind.i64 0) = w6 at BK6 HI6 HJ6 HB6 ⊢
      obtain rfl : k = n := by omega
      go_loopw [9] (fun i wr => ∃ j : Nat, j ≤ m ∧ i = .int .i64 j ∧ Aside0 (wr.heap[g3]? = some (.cells #[.int .i64 (fullOf k), .int .i64 ((k : Int) - fullOf k), .int .i64 0, .int .i64 0, .int .i64 0] 23 (0, 0))) ∧ Aside0 (IsS25 w wr g (fullOf k) ((k : Int) - fullOf k) 0 j 0) ∧ Aside0 (IsS25 w wr g2 0 0 j 0 0) ∧ Aside0 (Below w.heap.size w wr)) (fun i _ => m - (intOf i).toNat)
      case atStart => exact ⟨0, Nat.zero_le _, rfl, BK6, HI6, HJ6, HB6⟩
      case round =>
        clear BK6 HI6 HJ6 HB6
        obtain ⟨j, hj, rfl, BK, HI, HJ, HB⟩ := hrel
        by_cases hlt2 : j < m
        · go_wp2_with (first
            | (go_at_call 7; (with_reducible refine (tally_Counter_Out.calls _ 0 0 j 0 0 7 7 _ _ _ _ _ w _ HJ.out HB.out (out_d j (by omega))).mono ?_); rintro e w7 ⟨rfl, hi, hb, hk⟩; replace HJ := Aside0.mk hi; replace HI := Aside0.mk (show IsS25 w w7 g _ _ _ _ _ from ⟨hk.blk HI.out.1 NE.out (by simp), HI.out.2⟩); replace BK := Aside0.mk (hk.blk BK.out (Ne.symm NE4.out) (by simp)); replace HB := Aside0.mk hb; clear hi hb hk)
            | (go_at_call 7; (with_reducible refine (tally_Counter_Out.calls _ (fullOf k) ((k : Int) - fullOf k) 0 j 0 j (-1) _ _ _ _ _ w _ HI.out HB.out (out_c _ _ j (by omega))).mono ?_); rintro e w8 ⟨rfl, hi, hb, hk⟩; replace HI := Aside0.mk hi; replace HJ := Aside0.mk (show IsS25 w w8 g2 _ _ _ _ _ from ⟨hk.blk HJ.out.1 (Ne.symm NE.out) (by simp), HJ.out.2⟩); replace BK := Aside0.mk (hk.blk BK.out (Ne.symm NE3.out) (by simp)); replace HB := Aside0.mk hb; clear hi hb hk))
          go_roundw
          case rel => exact ⟨j + 1, by omega, by go_num, BK, HI, HJ, HB⟩
          case measure => simp [intOf]; omega
        · have hc0 : wr.cell? ⟨g3, 0, none⟩ = some (.int .i64 (fullOf k)) := (blk_cell BK.out 0).trans rfl
          have hc1 : wr.cell? ⟨g3, 1, none⟩ = some (.int .i64 ((k : Int) - fullOf k)) := (blk_cell BK.out 1).trans rfl
          have hc2 : wr.cell? ⟨g3, 2, none⟩ = some (.int .i64 0) := (blk_cell BK.out 2).trans rfl
          have hc3 : wr.cell? ⟨g3, 3, none⟩ = some (.int .i64 0) := (blk_cell BK.out 3).trans rfl
          have hc4 : wr.cell? ⟨g3, 4, none⟩ = some (.int .i64 0) := (blk_cell BK.out 4).trans rfl
          by_cases h5 : 5 < k
          · have e1 : fullOf k = 1 := if_pos h5
            rw [e1] at hc0 hc1 HI
            clear e1 BK
            go_wp2_with (first
              | (go_at_call 9; (with_reducible refine (tally_Counter_Tally.calls _ 0 0 j 0 0 0 0 m 0 0 0 0 m 0 0 w _ HJ.out HB.out ?xa).mono ?_); (case xa => (rw [show (j : Int) = m by omega]; rfl)); rintro e w9 ⟨rfl, hi, hb, hk⟩; replace HI := Aside0.mk (show IsS25 w w9 g _ _ _ _ _ from ⟨hk.blk HI.out.1 NE.out (by simp), HI.out.2⟩); replace HB := Aside0.mk hb; clear hi hb hk)
              | (go_at_call 9; (with_reducible refine (tally_Counter_Tally.calls _ 1 ((k : Int) - 1) 0 j 0 1 ((k : Int) - 1) 0 m 0 1 ((k : Int) - 1) 0 m 0 w _ HI.out HB.out ?xb).mono ?_); (case xb => (rw [show (j : Int) = m by omega]; rfl)); rintro e w10 ⟨rfl, hi, hb, hk⟩; replace HB := Aside0.mk hb; clear hi hb hk)
              | (go_at_call 3; (with_reducible refine (salvorlaw23_TallyRuns.calls _ ?xc).mono ?_); (case xc => exact tb_ HTAB HB); rintro e w11 ⟨rfl, hb⟩; replace HB := bs_ HB hb; clear hb))
            go_ret
            exact ⟨rfl, bh_ HB⟩
          · have e1 : fullOf k = 0 := if_neg h5
            rw [e1] at hc0 hc1 HI
            clear e1 BK
            go_wp2_with (first
              | (go_at_call 9; (with_reducible refine (tally_Counter_Tally.calls _ 0 0 j 0 0 0 0 m 0 0 0 0 m 0 0 w _ HJ.out HB.out ?ya).mono ?_); (case ya => (rw [show (j : Int) = m by omega]; rfl)); rintro e w9 ⟨rfl, hi, hb, hk⟩; replace HI := Aside0.mk (show IsS25 w w9 g _ _ _ _ _ from ⟨hk.blk HI.out.1 NE.out (by simp), HI.out.2⟩); replace HB := Aside0.mk hb; clear hi hb hk)
              | (go_at_call 9; (with_reducible refine (tally_Counter_Tally.calls _ 0 ((k : Int) - 0) 0 j 0 0 ((k : Int) - 0) 0 m 0 0 ((k : Int) - 0) 0 m 0 w _ HI.out HB.out ?yb).mono ?_); (case yb => (rw [show (j : Int) = m by omega]; rfl)); rintro e w10 ⟨rfl, hi, hb, hk⟩; replace HB := Aside0.mk hb; clear hi hb hk)
              | (go_at_call 3; (with_reducible refine (salvorlaw23_TallyRuns.calls _ ?yc).mono ?_); (case yc => exact tb_ HTAB HB); rintro e w11 ⟨rfl, hb⟩; replace HB := bs_ HB hb; clear hb))
            go_ret
            exact ⟨rfl, bh_ HB⟩
end Go.Proofs.YtabmegbapfajoaaDoor.P
