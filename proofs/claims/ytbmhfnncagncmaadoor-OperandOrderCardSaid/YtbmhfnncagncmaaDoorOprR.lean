/- The walk of OperandRuns: the closed run answers true. No conditions. -/
import Derived.Test.YtbmhfnncagncmaaDoorPx0
import Derived.Test.YtbmhfnncagncmaaDoorPx12
import Derived.Test.YtbmhfnncagncmaaDoorOprF
namespace Go.Proofs.YtbmhfnncagncmaaDoor.P
open Go.RowKit Go.Proofs.YtbmhfnncagncmaaDoorW.PrintWords Go.Proofs.YtbmhfnncagncmaaDoorW.PrintLast
-- names: Kd.C_nil
set_option linter.unusedVariables false
set_option linter.unusedSimpArgs false
def runsL : List ByteArray := [⟨#[105, 102, 61, 97]⟩, ⟨#[111, 102, 61, 98]⟩, ⟨#[98, 115, 61, 50, 107]⟩, ⟨#[99, 111, 110, 118, 61, 115, 121, 110, 99, 44, 110, 111, 101, 114, 114, 111, 114]⟩]
def runsP : PL := { zeroPL with src := ⟨#[97]⟩, dst := ⟨#[98]⟩, ibs := 2048, obs := 2048, sync := true, noerror := true, all := true, direct := true }
theorem runs_eval : parseF 40 runsL = some (runsP, 0) := by kernel_rfl
theorem none_eval : parseF 40 [] = some (zeroPL, 2) := by kernel_rfl
set_option maxHeartbeats 8000000 in
set_option maxRecDepth 100000 in
theorem runs_walk (w : World) (htab : TabAt w) : Calls Tryd.prog 3 #[] w fun e w' => e = .returned (.bool true) ∧ Below w.heap.size w w' := by
  have HT := Aside0.mk htab
  clear htab
  go_enter Tryd.func3, Tryd.ntmps3
  go_upto_region 2 with (first
    | (go_at_call 6; generalize hW : World.alloc w _ = wz; have HB := Aside0.mk (show Below w.heap.size w wz by {rw [← hW]; exact below_alloc (Below.refl _ _) _}); have hk : Kd.C Kd.string wz (some ⟨w.heap.size, 0, none⟩) runsL.length runsL := by {rw [← hW]; exact (Kd.R_reads' (split_owns w runsL 4 rfl (by unfold maxLen; omega))).2.2}; clear hW; have hq := parse_walk 40 (some ⟨w.heap.size, 0, none⟩) 4 runsL runsP 0 wz hk (by decide) (HT.out.below HB.out) runs_eval; refine hq.mono ?_; clear hq hk; rintro e w1 ⟨rfl, hb⟩; replace HB := Aside0.mk (below_step HB.out hb); clear hb)
    | ((with_reducible refine gate_dst (N := 1) rfl ?_); refine box_e 1 zeroPL.c 25 ?_; intro g1 hg w2 hbox hb; have H1 := Aside0.mk hbox; have G1 := Aside0.mk (show w.heap.size ≤ g1 by {rw [hg]; exact below_size HB.out}); replace HB := Aside0.mk (below_step HB.out hb); clear hg hbox hb)
    | ((with_reducible refine gate_store (t := 25) (p := 1) rfl ?_); refine store_event (t := 25) (p := 1) (v := .tmp 8) (w1 := (World.setRow w2 g1 runsP.c)) ?hg1 ?ho1 ?hn1 ?hr1 ?_; (case ho1 => rfl); (case hg1 => rfl); (case hn1 => rfl); (case hr1 => exact store_ev (tp := 1) (tv := 8) (p := zeroPL) (q := runsP) rfl rfl rfl H1.out); intro w3 hw; replace H1 := Aside0.mk (show w3.heap[g1]? = some (.cells runsP.c 25 (0, 0)) by {rw [hw]; exact setRow_heap _ g1 _ _ 25 (0, 0) H1.out}); replace HB := Aside0.mk (show Below w.heap.size w w3 by {rw [hw]; exact below_setRow HB.out G1.out _}); clear hw))
  go_upto_region 3 with (first
    | (go_at_call 6; refine (parse_walk 40 none 0 [] zeroPL 2 _ (Kd.C_nil Kd.string _) (Nat.le_refl _) (HT.out.below HB.out) none_eval).mono ?_; rintro e w4 ⟨rfl, hb⟩; replace H1 := Aside0.mk (blk_below H1.out hb); replace HB := Aside0.mk (below_step HB.out hb); clear hb)
    | ((with_reducible refine gate_dst (N := 3) rfl ?_); refine box_e 3 zeroPL.c 25 ?_; intro g3 hg w5 hbox hb; have H3 := Aside0.mk hbox; have G3 := Aside0.mk (show w.heap.size ≤ g3 by {rw [hg]; exact below_size HB.out}); have N13 := Aside0.mk (show g1 ≠ g3 from by rw [hg]; exact Nat.ne_of_lt (blk_lt H1.out)); replace H1 := Aside0.mk (blk_below H1.out hb); replace HB := Aside0.mk (below_step HB.out hb); clear hg hbox hb)
    | ((with_reducible refine gate_store (t := 25) (p := 3) rfl ?_); refine store_event (t := 25) (p := 3) (v := .tmp 12) (w1 := (World.setRow w5 g3 zeroPL.c)) ?hg2 ?ho2 ?hn2 ?hr2 ?_; (case ho2 => rfl); (case hg2 => rfl); (case hn2 => rfl); (case hr2 => exact store_ev (tp := 3) (tv := 12) (p := zeroPL) (q := zeroPL) rfl rfl rfl H3.out); intro w6 hw; replace H1 := Aside0.mk (show w6.heap[g1]? = some (.cells runsP.c 25 (0, 0)) by {rw [hw, setRow_other _ g3 g1 _ N13.out]; exact H1.out}); replace HB := Aside0.mk (show Below w.heap.size w w6 by {rw [hw]; exact below_setRow HB.out G3.out _}); clear hw))
  have a11 := (blk_cell H1.out 11).trans (show _ = some (.int .i64 2048) from rfl)
  have a12 := (blk_cell H1.out 12).trans (show _ = some (.int .i64 2048) from rfl)
  have a16 := (blk_cell H1.out 16).trans (show _ = some (.bool true) from rfl)
  have a17 := (blk_cell H1.out 17).trans (show _ = some (.bool true) from rfl)
  have a19 := (blk_cell H1.out 19).trans (show _ = some (.bool true) from rfl)
  have a20 := (blk_cell H1.out 20).trans (show _ = some (.bool true) from rfl)
  go_wp2
  go_ret
  exact ⟨rfl, HB.out⟩
end Go.Proofs.YtbmhfnncagncmaaDoor.P
