import Derived.Test.YtbmhfnncagncmaaGreatDoorOprS
import Derived.Test.YtbmhfnncagncmaaGreatDoorOprQ
namespace Go.Proofs.YtbmhfnncagncmaaGreatDoor.P
open Go.RowKit Go.Proofs.YtbmhfnncagncmaaGreatDoorW.PrintWords Go.Proofs.YtbmhfnncagncmaaGreatDoorW.PrintLast
attribute [local go_sem high] eqA28
set_option linter.unusedVariables false
set_option linter.unusedSimpArgs false
set_option maxHeartbeats 8000000 in
set_option maxRecDepth 100000 in
theorem parses_walk (k : Nat) (A : Option Addr) (c : Nat) (l : List ByteArray) (p : PL) (rc : Int) (b : Bool) (w : World) (hr : Kd.C Kd.string w A l.length l) (hc : l.length ≤ c) (hf : salvorlaw24_few.f k l = some b) (h1 : b = true → parseF k l = some (p, rc)) (h2 : b = true → rparseF k l = some (p, rc)) (htab : TabAt w) :
    Calls Tryz.prog 3 #[.slice A l.length c] w fun e w' => e = .returned (.bool true) ∧ Below w.heap.size w w' := by
  have HR := Aside0.mk hr
  have HC := Aside0.mk hc
  have HT := Aside0.mk htab
  have HF := Aside0.mk hf
  have HB := Aside0.mk (Below.refl w.heap.size w)
  clear hr hc htab hf
  cases b with
  | false =>
    clear h1 h2
    go_enter Tryz.func3, Tryz.ntmps3
    go_wp2_with (first
      | (go_at_call 5; (with_reducible refine (salvorlaw24_few.calls k A c l false _ (Kd.C_below HR.out HB.out) HC.out HF.out (HT.out.below HB.out)).mono ?_); rintro e w1 ⟨rfl, hb⟩; replace hb := d0b hb; replace HB := Aside0.mk (below_step HB.out hb); clear hb)
      | (go_at_call 6; refine (runs_walk _ (HT.out.below HB.out)).mono ?_; rintro e wf ⟨rfl, hb⟩; replace HB := Aside0.mk (below_step HB.out hb); clear hb))
    go_ret
    exact ⟨rfl, HB.out⟩
  | true =>
    have H1 := Aside0.mk (h1 rfl)
    have H2 := Aside0.mk (h2 rfl)
    clear h1 h2
    have hqq : (((p.swab == p.swab) && ((p.block == p.block) && ((p.unblock == p.unblock) && ((p.lcase == p.lcase) && ((p.ucase == p.ucase) && ((p.ascii == p.ascii) && ((p.ebcdic == p.ebcdic) && ((p.ibm == p.ibm) && (p.cbs == p.cbs))))))))) && ((p.src.toList == p.src.toList) && ((p.dst.toList == p.dst.toList) && ((p.ibs == p.ibs) && ((p.obs == p.obs) && ((p.skip == p.skip) && ((p.seek == p.seek) && ((p.count == p.count) && ((p.all == p.all) && ((p.direct == p.direct) && ((p.full == p.full) && ((p.sync == p.sync) && ((p.noerror == p.noerror) && ((p.notrunc == p.notrunc) && ((p.sparse == p.sparse) && ((p.fsync == p.fsync) && ((p.excl == p.excl) && (p.nocreat == p.nocreat)))))))))))))))))) = true := by simp
    have hcc : (rc == rc) = true := by simp
    go_enter Tryz.func3, Tryz.ntmps3
    go_upto_region 4 with (first
      | (go_at_call 5; (with_reducible refine (salvorlaw24_few.calls k A c l true _ (Kd.C_below HR.out HB.out) HC.out HF.out (HT.out.below HB.out)).mono ?_); rintro e w1 ⟨rfl, hb⟩; replace hb := d0b hb; replace HB := Aside0.mk (below_step HB.out hb); clear hb)
      | (go_at_call 7; (with_reducible refine (parse_walk k A c l p rc _ (Kd.C_below HR.out HB.out) HC.out (HT.out.below HB.out) H1.out).mono ?_); rintro e w2 ⟨rfl, hb⟩; replace HB := Aside0.mk (below_step HB.out hb); clear hb)
      | ((with_reducible refine gate_dst (N := 3) rfl ?_); refine box_e 3 zeroPL.c 28 ?_; intro g3 hg w3 hbox hb; have H3 := Aside0.mk hbox; have G3 := Aside0.mk (show w.heap.size ≤ g3 by {rw [hg]; exact below_size HB.out}); replace HB := Aside0.mk (below_step HB.out hb); clear hg hbox hb)
      | ((with_reducible refine gate_store (t := 28) (p := 3) rfl ?_); refine store_event (t := 28) (p := 3) (v := .tmp 14) (w1 := (World.setRow w3 g3 p.c)) ?hg_2 ?ho_2 ?hn_2 ?hr_2 ?_; (case ho_2 => rfl); (case hg_2 => rfl); (case hn_2 => rfl); (case hr_2 => exact store_ev (tp := 3) (tv := 14) (p := zeroPL) (q := p) rfl rfl rfl H3.out); intro w3s hw; replace H3 := Aside0.mk (show w3s.heap[g3]? = some (.cells p.c 28 (0, 0)) by {rw [hw]; exact setRow_heap _ g3 _ _ 28 (0, 0) H3.out}); replace HB := Aside0.mk (show Below w.heap.size w w3s by {rw [hw]; exact below_setRow HB.out G3.out _}); clear hw))
    go_upto_region 5 with (first
      | (go_at_call 8; (with_reducible refine (rparse_walk k A c l p rc _ (Kd.C_below HR.out HB.out) HC.out H2.out).mono ?_); rintro e w4 ⟨rfl, hb⟩; replace H3 := Aside0.mk (blk_below H3.out hb); replace HB := Aside0.mk (below_step HB.out hb); clear hb)
      | ((with_reducible refine gate_dst (N := 5) rfl ?_); refine box_e 5 zeroPL.c 28 ?_; intro g5 hg w5 hbox hb; have H5 := Aside0.mk hbox; have G5 := Aside0.mk (show w.heap.size ≤ g5 by {rw [hg]; exact below_size HB.out}); have N3_5 := Aside0.mk (show g3 ≠ g5 from by rw [hg]; exact Nat.ne_of_lt (blk_lt H3.out)); replace H3 := Aside0.mk (blk_below H3.out hb); replace HB := Aside0.mk (below_step HB.out hb); clear hg hbox hb)
      | ((with_reducible refine gate_store (t := 28) (p := 5) rfl ?_); refine store_event (t := 28) (p := 5) (v := .tmp 19) (w1 := (World.setRow w5 g5 p.c)) ?hg_3 ?ho_3 ?hn_3 ?hr_3 ?_; (case ho_3 => rfl); (case hg_3 => rfl); (case hn_3 => rfl); (case hr_3 => exact store_ev (tp := 5) (tv := 19) (p := zeroPL) (q := p) rfl rfl rfl H5.out); intro w5s hw; replace H5 := Aside0.mk (show w5s.heap[g5]? = some (.cells p.c 28 (0, 0)) by {rw [hw]; exact setRow_heap _ g5 _ _ 28 (0, 0) H5.out}); replace H3 := Aside0.mk (show w5s.heap[g3]? = some (.cells p.c 28 (0, 0)) by {rw [hw, setRow_other _ g5 g3 _ N3_5.out]; exact H3.out}); replace HB := Aside0.mk (show Below w.heap.size w w5s by {rw [hw]; exact below_setRow HB.out G5.out _}); clear hw))
    go_wp2_with (first
      | ((with_reducible refine gate_dst (N := 21) rfl ?_); refine load_event (.agg #[.bool p.swab, .bool p.block, .bool p.unblock, .bool p.lcase, .bool p.ucase, .bool p.ascii, .bool p.ebcdic, .bool p.ibm, .int .i64 p.cbs, .string p.src, .string p.dst, .int .i64 p.ibs, .int .i64 p.obs, .int .i64 p.skip, .int .i64 p.seek, .int .i64 p.count, .bool p.all, .bool p.direct, .bool p.full, .bool p.sync, .bool p.noerror, .bool p.notrunc, .bool p.sparse, .bool p.fsync, .bool p.excl, .bool p.nocreat]) (by rfl) (load_ev (tp := 3) (p := p) rfl rfl H3.out) ?_)
      | ((with_reducible refine gate_dst (N := 22) rfl ?_); refine load_event (.agg #[.bool p.swab, .bool p.block, .bool p.unblock, .bool p.lcase, .bool p.ucase, .bool p.ascii, .bool p.ebcdic, .bool p.ibm, .int .i64 p.cbs, .string p.src, .string p.dst, .int .i64 p.ibs, .int .i64 p.obs, .int .i64 p.skip, .int .i64 p.seek, .int .i64 p.count, .bool p.all, .bool p.direct, .bool p.full, .bool p.sync, .bool p.noerror, .bool p.notrunc, .bool p.sparse, .bool p.fsync, .bool p.excl, .bool p.nocreat]) (by rfl) (load_ev (tp := 5) (p := p) rfl rfl H5.out) ?_)
      | (go_at_call 6; refine (runs_walk _ (HT.out.below HB.out)).mono ?_; rintro e wf ⟨rfl, hb⟩; replace HB := Aside0.mk (below_step HB.out hb); clear hb))
    go_ret
    exact ⟨rfl, HB.out⟩
end Go.Proofs.YtbmhfnncagncmaaGreatDoor.P
