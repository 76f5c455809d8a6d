import Derived.Test.YtbmhfnncagncmaaGreatDoorPx29
import Derived.Test.YtbmhfnncagncmaaGreatDoorOprS
import Derived.Test.YtbmhfnncagncmaaGreatDoorOprQ
namespace Go.Proofs.YtbmhfnncagncmaaGreatDoor.P
open Go.RowKit Go.Proofs.YtbmhfnncagncmaaGreatDoorW.PrintWords Go.Proofs.YtbmhfnncagncmaaGreatDoorW.PrintLast
attribute [local go_sem high] eqA28
set_option linter.unusedVariables false
set_option linter.unusedSimpArgs false
set_option maxHeartbeats 8000000 in
set_option maxRecDepth 100000 in
theorem drawn_walk (k : Nat) (c0 c1 c2 c3 c4 c5 c6 c7 c8 c9 c10 : Int) (disk : Bool) (A : Option Addr) (c : Nat) (l : List ByteArray) (r : List ByteArray) (p : PL) (rc : Int) (b : Bool) (w : World) (hr : Kd.C Kd.string w A l.length l) (hc : l.length ≤ c) (hf : salvorlaw24_few.f k l = some b) (ha : b = true → salvorkeep_Dd_Args.f k c0 c1 c2 c3 c4 c5 c6 c7 c8 c9 c10 disk = some r) (hz : b = true → r.length + l.length < 8796093022208) (h1 : b = true → parseF k (r ++ l) = some (p, rc)) (h2 : b = true → rparseF k (r ++ l) = some (p, rc)) (htab : TabAt w) :
    Calls Tryz.prog 4 #[.agg #[.int .u8 c0, .int .u8 c1, .int .u8 c2, .int .u8 c3, .int .u8 c4, .int .u8 c5, .int .u8 c6, .int .u8 c7, .int .u8 c8, .int .u8 c9, .int .u32 c10], .bool disk, .slice A l.length c] w fun e w' => e = .returned (.bool true) ∧ Below w.heap.size w w' := by
  have HR := Aside0.mk hr
  have HC := Aside0.mk hc
  have HT := Aside0.mk htab
  have HF := Aside0.mk hf
  have HB := Aside0.mk (Below.refl w.heap.size w)
  clear hr hc htab hf
  cases b with
  | false =>
    clear h1 h2 ha hz
    go_enter Tryz.func4, Tryz.ntmps4
    go_wp2_with (first
      | ((with_reducible refine gate_dst (N := 3) rfl ?_); refine box_e 3 #[.int .u8 c0, .int .u8 c1, .int .u8 c2, .int .u8 c3, .int .u8 c4, .int .u8 c5, .int .u8 c6, .int .u8 c7, .int .u8 c8, .int .u8 c9, .int .u32 c10] 35 ?_; intro gd hg wd hbox hb; have HD := Aside0.mk hbox; replace HB := Aside0.mk (below_step HB.out hb); clear hg hbox hb)
      | (go_at_call 5; (with_reducible refine (salvorlaw24_few.calls k A c l false _ (Kd.C_below HR.out HB.out) HC.out HF.out (HT.out.below HB.out)).mono ?_); rintro e w1 ⟨rfl, hb⟩; replace hb := d0b hb; replace HB := Aside0.mk (below_step HB.out hb); replace HD := Aside0.mk (blk_below HD.out hb); clear hb; have cz0 := (blk_cell HD.out 0).trans (show _ = some (.int .u8 c0) from rfl); have cz1 := (blk_cell HD.out 1).trans (show _ = some (.int .u8 c1) from rfl); have cz2 := (blk_cell HD.out 2).trans (show _ = some (.int .u8 c2) from rfl); have cz3 := (blk_cell HD.out 3).trans (show _ = some (.int .u8 c3) from rfl); have cz4 := (blk_cell HD.out 4).trans (show _ = some (.int .u8 c4) from rfl); have cz5 := (blk_cell HD.out 5).trans (show _ = some (.int .u8 c5) from rfl); have cz6 := (blk_cell HD.out 6).trans (show _ = some (.int .u8 c6) from rfl); have cz7 := (blk_cell HD.out 7).trans (show _ = some (.int .u8 c7) from rfl); have cz8 := (blk_cell HD.out 8).trans (show _ = some (.int .u8 c8) from rfl); have cz9 := (blk_cell HD.out 9).trans (show _ = some (.int .u8 c9) from rfl); have cz10 := (blk_cell HD.out 10).trans (show _ = some (.int .u32 c10) from rfl))
      | (go_at_call 6; refine (runs_walk _ (HT.out.below HB.out)).mono ?_; rintro e wf ⟨rfl, hb⟩; replace HB := Aside0.mk (below_step HB.out hb); clear hb))
    go_ret
    exact ⟨rfl, HB.out⟩
  | true =>
    obtain ⟨y, hy⟩ : ∃ y : List ByteArray, y = r ++ l := ⟨_, rfl⟩
    have NY := Aside0.mk hy
    have H1 := Aside0.mk (show parseF k y = some (p, rc) from by rw [hy]; exact h1 rfl)
    have H2 := Aside0.mk (show rparseF k y = some (p, rc) from by rw [hy]; exact h2 rfl)
    clear hy
    have HA := Aside0.mk (ha rfl)
    have HZ := Aside0.mk (hz rfl)
    clear h1 h2 ha hz
    have hqq : (((p.swab == p.swab) && ((p.block == p.block) && ((p.unblock == p.unblock) && ((p.lcase == p.lcase) && ((p.ucase == p.ucase) && ((p.ascii == p.ascii) && ((p.ebcdic == p.ebcdic) && ((p.ibm == p.ibm) && (p.cbs == p.cbs))))))))) && ((p.src.toList == p.src.toList) && ((p.dst.toList == p.dst.toList) && ((p.ibs == p.ibs) && ((p.obs == p.obs) && ((p.skip == p.skip) && ((p.seek == p.seek) && ((p.count == p.count) && ((p.all == p.all) && ((p.direct == p.direct) && ((p.full == p.full) && ((p.sync == p.sync) && ((p.noerror == p.noerror) && ((p.notrunc == p.notrunc) && ((p.sparse == p.sparse) && ((p.fsync == p.fsync) && ((p.excl == p.excl) && (p.nocreat == p.nocreat)))))))))))))))))) = true := by simp
    have hcc : (rc == rc) = true := by simp
    go_enter Tryz.func4, Tryz.ntmps4
    go_upto_region 4 with (first
      | ((with_reducible refine gate_dst (N := 3) rfl ?_); refine box_e 3 #[.int .u8 c0, .int .u8 c1, .int .u8 c2, .int .u8 c3, .int .u8 c4, .int .u8 c5, .int .u8 c6, .int .u8 c7, .int .u8 c8, .int .u8 c9, .int .u32 c10] 35 ?_; intro gd hg wd hbox hb; have HD := Aside0.mk hbox; replace HB := Aside0.mk (below_step HB.out hb); clear hg hbox hb)
      | (go_at_call 5; (with_reducible refine (salvorlaw24_few.calls k A c l true _ (Kd.C_below HR.out HB.out) HC.out HF.out (HT.out.below HB.out)).mono ?_); rintro e w1 ⟨rfl, hb⟩; replace hb := d0b hb; replace HB := Aside0.mk (below_step HB.out hb); replace HD := Aside0.mk (blk_below HD.out hb); clear hb; have cz0 := (blk_cell HD.out 0).trans (show _ = some (.int .u8 c0) from rfl); have cz1 := (blk_cell HD.out 1).trans (show _ = some (.int .u8 c1) from rfl); have cz2 := (blk_cell HD.out 2).trans (show _ = some (.int .u8 c2) from rfl); have cz3 := (blk_cell HD.out 3).trans (show _ = some (.int .u8 c3) from rfl); have cz4 := (blk_cell HD.out 4).trans (show _ = some (.int .u8 c4) from rfl); have cz5 := (blk_cell HD.out 5).trans (show _ = some (.int .u8 c5) from rfl); have cz6 := (blk_cell HD.out 6).trans (show _ = some (.int .u8 c6) from rfl); have cz7 := (blk_cell HD.out 7).trans (show _ = some (.int .u8 c7) from rfl); have cz8 := (blk_cell HD.out 8).trans (show _ = some (.int .u8 c8) from rfl); have cz9 := (blk_cell HD.out 9).trans (show _ = some (.int .u8 c9) from rfl); have cz10 := (blk_cell HD.out 10).trans (show _ = some (.int .u32 c10) from rfl))
      | (go_at_call 9; (with_reducible refine (salvorkeep_Dd_Args.calls k c0 c1 c2 c3 c4 c5 c6 c7 c8 c9 c10 disk r _ HA.out).mono ?_); rintro e w2 ⟨v0, rfl, ho, hb⟩; have HO := Aside0.mk (Kd.R_lower ho (below_size HB.out)); replace HB := Aside0.mk (below_step HB.out hb); clear hb ho cz0 cz1 cz2 cz3 cz4 cz5 cz6 cz7 cz8 cz9 cz10)
      | ((with_reducible refine gate_builtin (b := .append) (xs := #[.tmp 18, .tmp 19]) rfl ?_); at_builtin; refine Kd.R_append_rows Kd.string (w0 := w) w.heap.size rfl (.tmp 18) (.tmp 19) 22 9 (.string ⟨#[]⟩) 16 rfl Tryz.underlying22 info9 rfl (by decide) (by omega) v0 r l _ _ _ (fun _ => True) (fun _ => False) rfl rfl ?aO ?aR (fun _ _ h => h) (fun _ h => h.elim) ?aF ?aB ?aS ?aL ?_; (case aR => exact Kd.C_below HR.out HB.out); (case aB => exact HB.out); (case aF => exact (fun _ _ => trivial)); (case aO => exact HO.out); (case aS => exact below_size HB.out); (case aL => have := HZ.out; omega); intro v1 w3 ho hb hg hat; rw [← NY.out] at ho; obtain ⟨Ay, cy, ey⟩ := Kd.R_slice ho; subst ey; have HY := Aside0.mk (Kd.R_reads' ho).2.2; have HYc := Aside0.mk (Kd.R_reads' ho).2.1; replace HB := Aside0.mk hb; have HY0 := Aside0.mk (Below.refl w3.heap.size w3); clear ho hb hg hat HO))
    go_upto_region 5 with (first
      | (go_at_call 7; (with_reducible refine (parse_walk k Ay cy y p rc _ (Kd.C_below HY.out HY0.out) HYc.out (HT.out.below HB.out) H1.out).mono ?_); rintro e w4 ⟨rfl, hb⟩; replace HB := Aside0.mk (below_step HB.out hb); replace HY0 := Aside0.mk (below_step HY0.out hb); clear hb)
      | ((with_reducible refine gate_dst (N := 8) rfl ?_); refine box_e 8 zeroPL.c 28 ?_; intro g8 hg w5 hbox hb; have H8 := Aside0.mk hbox; have G8 := Aside0.mk (show w.heap.size ≤ g8 by {rw [hg]; exact below_size HB.out}); have GY8 := Aside0.mk (show w3.heap.size ≤ g8 by {rw [hg]; exact below_size HY0.out}); replace HY0 := Aside0.mk (below_step HY0.out hb); replace HB := Aside0.mk (below_step HB.out hb); clear hg hbox hb)
      | ((with_reducible refine gate_store (t := 28) (p := 8) rfl ?_); refine store_event (t := 28) (p := 8) (v := .tmp 24) (w1 := (World.setRow w5 g8 p.c)) ?hg_1 ?ho_1 ?hn_1 ?hr_1 ?_; (case ho_1 => rfl); (case hg_1 => rfl); (case hn_1 => rfl); (case hr_1 => exact store_ev (tp := 8) (tv := 24) (p := zeroPL) (q := p) rfl rfl rfl H8.out); intro w6 hw; replace H8 := Aside0.mk (show w6.heap[g8]? = some (.cells p.c 28 (0, 0)) by {rw [hw]; exact setRow_heap _ g8 _ _ 28 (0, 0) H8.out}); replace HY0 := Aside0.mk (show Below w3.heap.size w3 w6 by {rw [hw]; exact below_setRow HY0.out GY8.out _}); replace HB := Aside0.mk (show Below w.heap.size w w6 by {rw [hw]; exact below_setRow HB.out G8.out _}); clear hw))
    go_upto_region 6 with (first
      | (go_at_call 8; (with_reducible refine (rparse_walk k Ay cy y p rc _ (Kd.C_below HY.out HY0.out) HYc.out H2.out).mono ?_); rintro e w7 ⟨rfl, hb⟩; replace H8 := Aside0.mk (blk_below H8.out hb); replace HB := Aside0.mk (below_step HB.out hb); replace HY0 := Aside0.mk (below_step HY0.out hb); clear hb)
      | ((with_reducible refine gate_dst (N := 10) rfl ?_); refine box_e 10 zeroPL.c 28 ?_; intro g10 hg w8 hbox hb; have H10 := Aside0.mk hbox; have G10 := Aside0.mk (show w.heap.size ≤ g10 by {rw [hg]; exact below_size HB.out}); have N8_10 := Aside0.mk (show g8 ≠ g10 from by rw [hg]; exact Nat.ne_of_lt (blk_lt H8.out)); replace H8 := Aside0.mk (blk_below H8.out hb); replace HB := Aside0.mk (below_step HB.out hb); clear hg hbox hb)
      | ((with_reducible refine gate_store (t := 28) (p := 10) rfl ?_); refine store_event (t := 28) (p := 10) (v := .tmp 29) (w1 := (World.setRow w8 g10 p.c)) ?hg_4 ?ho_4 ?hn_4 ?hr_4 ?_; (case ho_4 => rfl); (case hg_4 => rfl); (case hn_4 => rfl); (case hr_4 => exact store_ev (tp := 10) (tv := 29) (p := zeroPL) (q := p) rfl rfl rfl H10.out); intro w9 hw; replace H10 := Aside0.mk (show w9.heap[g10]? = some (.cells p.c 28 (0, 0)) by {rw [hw]; exact setRow_heap _ g10 _ _ 28 (0, 0) H10.out}); replace H8 := Aside0.mk (show w9.heap[g8]? = some (.cells p.c 28 (0, 0)) by {rw [hw, setRow_other _ g10 g8 _ N8_10.out]; exact H8.out}); replace HB := Aside0.mk (show Below w.heap.size w w9 by {rw [hw]; exact below_setRow HB.out G10.out _}); clear hw))
    go_wp2_with (first
      | ((with_reducible refine gate_dst (N := 31) rfl ?_); refine load_event (.agg #[.bool p.swab, .bool p.block, .bool p.unblock, .bool p.lcase, .bool p.ucase, .bool p.ascii, .bool p.ebcdic, .bool p.ibm, .int .i64 p.cbs, .string p.src, .string p.dst, .int .i64 p.ibs, .int .i64 p.obs, .int .i64 p.skip, .int .i64 p.seek, .int .i64 p.count, .bool p.all, .bool p.direct, .bool p.full, .bool p.sync, .bool p.noerror, .bool p.notrunc, .bool p.sparse, .bool p.fsync, .bool p.excl, .bool p.nocreat]) (by rfl) (load_ev (tp := 8) (p := p) rfl rfl H8.out) ?_)
      | ((with_reducible refine gate_dst (N := 32) rfl ?_); refine load_event (.agg #[.bool p.swab, .bool p.block, .bool p.unblock, .bool p.lcase, .bool p.ucase, .bool p.ascii, .bool p.ebcdic, .bool p.ibm, .int .i64 p.cbs, .string p.src, .string p.dst, .int .i64 p.ibs, .int .i64 p.obs, .int .i64 p.skip, .int .i64 p.seek, .int .i64 p.count, .bool p.all, .bool p.direct, .bool p.full, .bool p.sync, .bool p.noerror, .bool p.notrunc, .bool p.sparse, .bool p.fsync, .bool p.excl, .bool p.nocreat]) (by rfl) (load_ev (tp := 10) (p := p) rfl rfl H10.out) ?_)
      | (go_at_call 6; refine (runs_walk _ (HT.out.below HB.out)).mono ?_; rintro e wf ⟨rfl, hb⟩; replace HB := Aside0.mk (below_step HB.out hb); clear hb))
    go_ret
    exact ⟨rfl, HB.out⟩
end Go.Proofs.YtbmhfnncagncmaaGreatDoor.P
