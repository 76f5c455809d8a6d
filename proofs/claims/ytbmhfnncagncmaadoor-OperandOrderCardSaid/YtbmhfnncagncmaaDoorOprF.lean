/- The walk of operand.Parse: what it answers, as one function of its arguments. No conditions beyond that function's own. -/
import Derived.Test.YtbmhfnncagncmaaDoorPx0
import Derived.Test.YtbmhfnncagncmaaDoorPx5
import Derived.Test.YtbmhfnncagncmaaDoorPx7
import Derived.Test.YtbmhfnncagncmaaDoorPx12
import Derived.Test.YtbmhfnncagncmaaDoorPx20
import Derived.Test.YtbmhfnncagncmaaDoorOprE
import Derived.Laws.CopyRow
import Derived.Laws.CopyOwn
namespace Go.Proofs.YtbmhfnncagncmaaDoor.P
open Go.RowKit Go.Proofs.YtbmhfnncagncmaaDoorW.PrintWords Go.Proofs.YtbmhfnncagncmaaDoorW.PrintLast
set_option linter.unusedVariables false
set_option linter.unusedSimpArgs false
def zeroPL : PL := ⟨false, false, false, false, false, false, false, false, 0, ⟨#[]⟩, ⟨#[]⟩, 0, 0, 0, 0, 0, false, false, false, false, false, false, false, false, false, false⟩
def keysW : List ByteArray := [⟨#[105, 102]⟩, ⟨#[111, 102]⟩, ⟨#[98, 115]⟩, ⟨#[105, 98, 115]⟩, ⟨#[111, 98, 115]⟩, ⟨#[99, 98, 115]⟩, ⟨#[115, 107, 105, 112]⟩, ⟨#[115, 101, 101, 107]⟩, ⟨#[99, 111, 117, 110, 116]⟩, ⟨#[99, 111, 110, 118]⟩, ⟨#[105, 102, 108, 97, 103]⟩]
def mayF (k : Nat) (p : PL) : Option Bool := operand_may.f k p.swab p.block p.unblock p.lcase p.ucase p.ascii p.ebcdic p.ibm p.cbs p.src p.dst p.ibs p.obs p.skip p.seek p.count p.all p.direct p.full p.sync p.noerror p.notrunc p.sparse p.fsync p.excl p.nocreat
def convertsF (p : PL) : Bool := p.swab || (p.block || (p.unblock || (p.lcase || (p.ucase || (p.ascii || (p.ebcdic || p.ibm))))))
/-- The numbers of an operand list, set in a plan; is all right? -/
def sizesF (k : Nat) (l : List S60) (p : PL) (ok : Bool) : Option (PL × Bool) :=
  (sizeT k l ⟨#[105, 98, 115]⟩ 512).bind fun e1 => (sizeT k l ⟨#[111, 98, 115]⟩ 512).bind fun e2 => (sizeT k l ⟨#[99, 98, 115]⟩ 0).bind fun e3 => (sizeT k l ⟨#[98, 115]⟩ 0).bind fun e4 => (numT k l ⟨#[115, 107, 105, 112]⟩ 0).bind fun e5 => (numT k l ⟨#[115, 101, 101, 107]⟩ 0).bind fun e6 => (numT k l ⟨#[99, 111, 117, 110, 116]⟩ 0).bind fun e7 =>
    some ({ p with ibs := if hasT l ⟨#[98, 115]⟩ = true then e4.1 else e1.1, obs := if hasT l ⟨#[98, 115]⟩ = true then e4.1 else e2.1, cbs := e3.1, skip := e5.1, seek := e6.1, count := e7.1, all := !hasT l ⟨#[99, 111, 117, 110, 116]⟩ }, ok && e1.2 && e2.2 && e3.2 && e4.2 && e5.2 && e6.2 && e7.2)
/-- What follows when all operands are known. -/
def tailF (k : Nat) (o : List S60) (s : PL × Bool) : Option (PL × Int) :=
  if s.2 = true then (mayF k s.1).bind fun m => if m = true then some ({ s.1 with direct := hasT o ⟨#[98, 115]⟩ && !convertsF s.1 }, 0) else some (zeroPL, 2) else some (zeroPL, 2)
def knownF (k : Nat) (o : List S60) : Option (PL × Int) :=
  if o.length ≤ 1000000 ∧ o.all (fun x => decide (x.f1.size < 4294967281)) = true then
    (nameT k o ⟨#[105, 102]⟩ true).bind fun n1 => (nameT k o ⟨#[111, 102]⟩ n1.2).bind fun n2 => (sizesF k o { zeroPL with src := n1.1, dst := n2.1 } n2.2).bind fun s => tailF k o (flagsF o s)
  else none
def parseF (k : Nat) (l : List ByteArray) : Option (PL × Int) :=
  (arg_Operands.f k l).bind fun x => if x.2 = true then (arg_Only.f x.1 keysW).bind fun on => if on = true then knownF k x.1 else some (zeroPL, 2) else some (zeroPL, 2)
/-- A whole plan is put into its block. -/
theorem store_plan (g : Nat) (p q : PL) (W : World) (hg : W.heap[g]? = some (.cells p.c 25 (0, 0))) : (storeVar 25 ⟨g, 0, none⟩ (.agg q.c)).run Tryd.prog W = .ok () (W.setRow g q.c) := by
  have hst := run_storeCells_at (P := Tryd.prog) g 0 25 q.c.toList 0 p.c W hg (by show 0 + 0 + 26 ≤ 26; decide) (by intro v hv; simp only [PL.c, List.mem_cons, List.mem_nil_iff, or_false] at hv; rcases hv with rfl | rfl | rfl | rfl | rfl | rfl | rfl | rfl | rfl | rfl | rfl | rfl | rfl | rfl | rfl | rfl | rfl | rfl | rfl | rfl | rfl | rfl | rfl | rfl | rfl | rfl <;> rfl)
  have e : (p.c.toList.take (0 + 0) ++ q.c.toList ++ p.c.toList.drop (0 + 0 + q.c.toList.length)).toArray = q.c := by rfl
  rw [e] at hst
  have hi : (Tryd.prog.info? 25).map (·.size) = some 26 := by kernel_rfl
  cases hq : Tryd.prog.info? 25 with
  | none => rw [hq] at hi; cases hi
  | some i =>
    have hs : i.size = 26 := by rw [hq] at hi; simpa using hi
    have hz : (Value.agg q.c).cells.size = 26 := rfl
    have hl : (Value.agg q.c).cells.toList = q.c.toList := rfl
    simp [storeVar, sizeOf, typeInfo, hq, hs, hz, hl, hst]
theorem store_ev {a : Act} {o : Oper} {W : World} {g : Nat} {tp tv : Tmp} {p q : PL} (ho : o.op = .store 25 (.tmp tp) (.tmp tv)) (hp : a.eval (.tmp tp) = .pointer (some ⟨g, 0, none⟩)) (hv : a.eval (.tmp tv) = .agg q.c) (hg : W.heap[g]? = some (.cells p.c 25 (0, 0))) : (execOp a.eval o).run Tryd.prog W = .ok .skip (W.setRow g q.c) := by
  have hst := store_plan g p q W hg
  unfold execOp
  rw [ho]
  simp [Instr.storeAt, Instr.sureAddr, hp, hv, hst]
theorem load_plan {W : World} {g : Nat} {p : PL} (hg : W.heap[g]? = some (.cells p.c 25 (0, 0))) : (Instr.loadAt 25 (.pointer (some ⟨g, 0, none⟩))).run Tryd.prog W = .ok (.agg p.c) W := by
  have hv := run_loadVar_row (P := Tryd.prog) W g 25 25 p.c (0, 0) _ hg Tryd.underlying25 rfl (by kernel_rfl)
  simp [Instr.loadAt, Instr.sureAddr, hv]
theorem load_event {P : Program} {ops : Array Oper} {rest : List Oper} {o : Oper} {a : Act} {Q : Exit → Act → World → Prop} {W : World} (v : Value) (hw : Region.wanted o (yielded ops a.tmps) = true) (hrun : (execOp a.eval o).run P W = .ok (.value v) W) (h : wpList P ops Q rest (a.put o.dst v) W) : wpList P ops Q (o :: rest) a W := by
  simp only [wpList, hw, if_true]
  left
  unfold Oper.wp
  rw [hrun]
  exact h
theorem load_ev {a : Act} {o : Oper} {W : World} {g : Nat} {tp : Tmp} {p : PL} (ho : o.op = .load 25 (.tmp tp)) (hp : a.eval (.tmp tp) = .pointer (some ⟨g, 0, none⟩)) (hg : W.heap[g]? = some (.cells p.c 25 (0, 0))) : (execOp a.eval o).run Tryd.prog W = .ok (.value (.agg p.c)) W := by
  have hl := load_plan hg
  unfold execOp
  rw [ho]
  simp [hp, hl]
theorem load_convs {W : World} {g : Nat} {p : PL} (hg : W.heap[g]? = some (.cells p.c 25 (0, 0))) : (Instr.loadAt 23 (.pointer (some ⟨g, 0, none⟩))).run Tryd.prog W = .ok (.agg #[.bool p.swab, .bool p.block, .bool p.unblock, .bool p.lcase, .bool p.ucase, .bool p.ascii, .bool p.ebcdic, .bool p.ibm, .int .i64 p.cbs]) W := by
  have hl := run_loadCells_list (P := Tryd.prog) (w := W) ⟨g, 0, none⟩ [.bool p.swab, .bool p.block, .bool p.unblock, .bool p.lcase, .bool p.ucase, .bool p.ascii, .bool p.ebcdic, .bool p.ibm, .int .i64 p.cbs] (fun j v hv => by
    have hadd : (⟨g, 0, none⟩ : Addr).add j = ⟨g, j, none⟩ := by unfold Addr.add; split <;> simp_all
    rw [hadd, blk_cell hg j]
    match j, hv with
    | 0, hv => exact hv
    | 1, hv => exact hv
    | 2, hv => exact hv
    | 3, hv => exact hv
    | 4, hv => exact hv
    | 5, hv => exact hv
    | 6, hv => exact hv
    | 7, hv => exact hv
    | 8, hv => exact hv
    | n + 9, hv => simp at hv)
  have hi : (Tryd.prog.info? 23).map (·.size) = some 9 := by kernel_rfl
  have hu := Tryd.underlying23
  cases hq : Tryd.prog.info? 23 with
  | none => rw [hq] at hi; cases hi
  | some i =>
    have hs : i.size = 9 := by rw [hq] at hi; simpa using hi
    simp [Instr.loadAt, Instr.sureAddr, loadVar, isAgg, run_underlying hu, sizeOf, typeInfo, hq, hs, show (loadCells ⟨g, 0, none⟩ 9).run Tryd.prog W = .ok #[.bool p.swab, .bool p.block, .bool p.unblock, .bool p.lcase, .bool p.ucase, .bool p.ascii, .bool p.ebcdic, .bool p.ibm, .int .i64 p.cbs] W from hl]
theorem load_ev23 {a : Act} {o : Oper} {W : World} {g : Nat} {tp : Tmp} {p : PL} (ho : o.op = .load 23 (.tmp tp)) (hp : a.eval (.tmp tp) = .pointer (some ⟨g, 0, none⟩)) (hg : W.heap[g]? = some (.cells p.c 25 (0, 0))) : (execOp a.eval o).run Tryd.prog W = .ok (.value (.agg #[.bool p.swab, .bool p.block, .bool p.unblock, .bool p.lcase, .bool p.ucase, .bool p.ascii, .bool p.ebcdic, .bool p.ibm, .int .i64 p.cbs])) W := by
  have hl := load_convs hg
  unfold execOp
  rw [ho]
  simp [hp, hl]
theorem cP {w : World} {g : Nat} {p : PL} (h : w.heap[g]? = some (.cells p.c 25 (0, 0))) : w.cell? ⟨g, 0, none⟩ = some (.bool p.swab) ∧ w.cell? ⟨g, 1, none⟩ = some (.bool p.block) ∧ w.cell? ⟨g, 2, none⟩ = some (.bool p.unblock) ∧ w.cell? ⟨g, 3, none⟩ = some (.bool p.lcase) ∧ w.cell? ⟨g, 4, none⟩ = some (.bool p.ucase) ∧ w.cell? ⟨g, 5, none⟩ = some (.bool p.ascii) ∧ w.cell? ⟨g, 6, none⟩ = some (.bool p.ebcdic) ∧ w.cell? ⟨g, 7, none⟩ = some (.bool p.ibm) ∧ w.cell? ⟨g, 8, none⟩ = some (.int .i64 p.cbs) ∧ w.cell? ⟨g, 9, none⟩ = some (.string p.src) ∧ w.cell? ⟨g, 10, none⟩ = some (.string p.dst) ∧ w.cell? ⟨g, 11, none⟩ = some (.int .i64 p.ibs) ∧ w.cell? ⟨g, 12, none⟩ = some (.int .i64 p.obs) ∧ w.cell? ⟨g, 13, none⟩ = some (.int .i64 p.skip) ∧ w.cell? ⟨g, 14, none⟩ = some (.int .i64 p.seek) ∧ w.cell? ⟨g, 15, none⟩ = some (.int .i64 p.count) ∧ w.cell? ⟨g, 16, none⟩ = some (.bool p.all) ∧ w.cell? ⟨g, 17, none⟩ = some (.bool p.direct) ∧ w.cell? ⟨g, 18, none⟩ = some (.bool p.full) ∧ w.cell? ⟨g, 19, none⟩ = some (.bool p.sync) ∧ w.cell? ⟨g, 20, none⟩ = some (.bool p.noerror) ∧ w.cell? ⟨g, 21, none⟩ = some (.bool p.notrunc) ∧ w.cell? ⟨g, 22, none⟩ = some (.bool p.sparse) ∧ w.cell? ⟨g, 23, none⟩ = some (.bool p.fsync) ∧ w.cell? ⟨g, 24, none⟩ = some (.bool p.excl) ∧ w.cell? ⟨g, 25, none⟩ = some (.bool p.nocreat) := ⟨(blk_cell h 0).trans rfl, (blk_cell h 1).trans rfl, (blk_cell h 2).trans rfl, (blk_cell h 3).trans rfl, (blk_cell h 4).trans rfl, (blk_cell h 5).trans rfl, (blk_cell h 6).trans rfl, (blk_cell h 7).trans rfl, (blk_cell h 8).trans rfl, (blk_cell h 9).trans rfl, (blk_cell h 10).trans rfl, (blk_cell h 11).trans rfl, (blk_cell h 12).trans rfl, (blk_cell h 13).trans rfl, (blk_cell h 14).trans rfl, (blk_cell h 15).trans rfl, (blk_cell h 16).trans rfl, (blk_cell h 17).trans rfl, (blk_cell h 18).trans rfl, (blk_cell h 19).trans rfl, (blk_cell h 20).trans rfl, (blk_cell h 21).trans rfl, (blk_cell h 22).trans rfl, (blk_cell h 23).trans rfl, (blk_cell h 24).trans rfl, (blk_cell h 25).trans rfl⟩
set_option maxHeartbeats 8000000 in
set_option maxRecDepth 100000 in
theorem parse_walk (k : Nat) (A0 : Option Addr) (c0 : Nat) (l0 : List ByteArray) (r : PL) (rc : Int) (w : World) (hr0 : Kd.C Kd.string w A0 l0.length l0) (hc0 : l0.length ≤ c0) (htab : TabAt w) (h : parseF k l0 = some (r, rc)) :
    Calls Tryd.prog 6 #[.slice A0 l0.length c0] w fun e w' => e = .returned (.tuple #[.agg r.c, .int .i64 rc]) ∧ Below w.heap.size w w' := by
  unfold parseF at h
  obtain ⟨⟨o, ok⟩, ho, h⟩ := Option.bind_eq_some_iff.mp h
  have HR0 := Aside0.mk hr0
  have HC0 := Aside0.mk hc0
  have HT := Aside0.mk htab
  have HO := Aside0.mk ho
  clear hr0 hc0 htab ho
  cases ok with
  | false =>
    rw [if_neg (by simp)] at h
    obtain ⟨rfl, rfl⟩ : zeroPL = r ∧ 2 = rc := by simpa using h
    clear h
    go_enter Tryd.func6, Tryd.ntmps6
    go_upto_region 3 with (first
      | ((with_reducible refine gate_dst (N := 2) rfl ?_); refine box_e 2 zeroPL.c 25 ?_; intro gr hg w1 hbox hb; have BR := Aside0.mk hbox; have HB := Aside0.mk hb; have HGR := Aside0.mk hg; clear hg hbox hb)
      | (go_at_call 8; (with_reducible refine (arg_Operands.calls k A0 c0 l0 o false _ (Kd.C_below HR0.out HB.out) HC0.out HO.out (HT.out.below HB.out)).mono ?_); rintro e w2 ⟨v0, rfl, hr, hb⟩; obtain ⟨A, c, ev⟩ := Kd.R_slice hr; subst ev; have HK := Aside0.mk (Kd.R_reads' hr).2.2; have HKc := Aside0.mk (Kd.R_reads' hr).2.1; replace BR := Aside0.mk (blk_below BR.out hb); replace HB := Aside0.mk (below_step HB.out hb); clear hr hb))
    go_wp2_with (first
      | ((with_reducible refine gate_store (t := 25) (p := 2) rfl ?_); refine store_event (t := 25) (p := 2) (v := .tmp 21) (w1 := (World.setRow w2 gr zeroPL.c)) ?hg1 ?ho1 ?hn1 ?hr1 ?_; (case ho1 => rfl); (case hg1 => rfl); (case hn1 => rfl); (case hr1 => exact store_ev (tp := 2) (tv := 21) (p := zeroPL) (q := zeroPL) rfl rfl rfl BR.out); intro w9 hw; replace BR := Aside0.mk (show w9.heap[gr]? = some (.cells zeroPL.c 25 (0, 0)) by {rw [hw]; exact setRow_heap _ gr _ _ 25 (0, 0) BR.out}); replace HB := Aside0.mk (show Below w.heap.size w w9 by {rw [hw]; exact below_setRow HB.out (Nat.le_of_eq HGR.out.symm) _}); clear hw))
    refine bodyPost_ret (results_ct rfl _ _ gr 25 zeroPL.c (0, 0) _ rfl BR.out Tryd.underlying25 rfl (by kernel_rfl)) rfl ?_
    exact ⟨rfl, HB.out⟩
  | true =>
    rw [if_pos rfl] at h
    obtain ⟨on, hon, h⟩ := Option.bind_eq_some_iff.mp h
    have HON := Aside0.mk hon
    clear hon
    cases on with
    | false =>
      rw [if_neg (by simp)] at h
      obtain ⟨rfl, rfl⟩ : zeroPL = r ∧ 2 = rc := by simpa using h
      clear h
      go_enter Tryd.func6, Tryd.ntmps6
      go_upto_region 3 with (first
        | ((with_reducible refine gate_dst (N := 2) rfl ?_); refine box_e 2 zeroPL.c 25 ?_; intro gr hg w1 hbox hb; have BR := Aside0.mk hbox; have HB := Aside0.mk hb; have HGR := Aside0.mk hg; clear hg hbox hb)
        | (go_at_call 8; (with_reducible refine (arg_Operands.calls k A0 c0 l0 o true _ (Kd.C_below HR0.out HB.out) HC0.out HO.out (HT.out.below HB.out)).mono ?_); rintro e w2 ⟨v0, rfl, hr, hb⟩; obtain ⟨A, c, ev⟩ := Kd.R_slice hr; subst ev; have HK := Aside0.mk (Kd.R_reads' hr).2.2; have HKc := Aside0.mk (Kd.R_reads' hr).2.1; replace BR := Aside0.mk (blk_below BR.out hb); replace HB := Aside0.mk (below_step HB.out hb); clear hr hb)
        | (go_at_call 9; generalize hW : World.alloc _ _ = wz; have HZ := Aside0.mk (show Below w2.heap.size w2 wz by {rw [← hW]; exact below_alloc (Below.refl _ _) _}); have hk : Kd.C Kd.string wz (some ⟨w2.heap.size, 0, none⟩) keysW.length keysW := by {rw [← hW]; exact (Kd.R_reads' (split_owns w2 keysW 11 rfl (by unfold maxLen; omega))).2.2}; clear hW; have hq := arg_Only.calls A c o (some ⟨w2.heap.size, 0, none⟩) 11 keysW false wz (Kd.C_below HK.out HZ.out) HKc.out hk (by decide) HON.out; refine hq.mono ?_; clear hq; rintro e w3 ⟨rfl, hb⟩; replace BR := Aside0.mk (blk_below (blk_below BR.out HZ.out) hb); replace HB := Aside0.mk (below_step (below_step HB.out HZ.out) hb); clear hk hb))
      go_wp2_with (first
        | ((with_reducible refine gate_store (t := 25) (p := 2) rfl ?_); refine store_event (t := 25) (p := 2) (v := .tmp 21) (w1 := (World.setRow w3 gr zeroPL.c)) ?hg2 ?ho2 ?hn2 ?hr2 ?_; (case ho2 => rfl); (case hg2 => rfl); (case hn2 => rfl); (case hr2 => exact store_ev (tp := 2) (tv := 21) (p := zeroPL) (q := zeroPL) rfl rfl rfl BR.out); intro w9 hw; replace BR := Aside0.mk (show w9.heap[gr]? = some (.cells zeroPL.c 25 (0, 0)) by {rw [hw]; exact setRow_heap _ gr _ _ 25 (0, 0) BR.out}); replace HB := Aside0.mk (show Below w.heap.size w w9 by {rw [hw]; exact below_setRow HB.out (Nat.le_of_eq HGR.out.symm) _}); clear hw))
      refine bodyPost_ret (results_ct rfl _ _ gr 25 zeroPL.c (0, 0) _ rfl BR.out Tryd.underlying25 rfl (by kernel_rfl)) rfl ?_
      exact ⟨rfl, HB.out⟩
    | true =>
      rw [if_pos rfl] at h
      unfold knownF at h
      by_cases hG : o.length ≤ 1000000 ∧ o.all (fun x => decide (x.f1.size < 4294967281)) = true
      rotate_left
      · rw [if_neg hG] at h; cases h
      rw [if_pos hG] at h
      have HL := Aside0.mk hG.1
      have HS := Aside0.mk (show ∀ x ∈ o, x.f1.size < 4294967281 from fun x hx => of_decide_eq_true (List.all_eq_true.1 hG.2 x hx))
      clear hG
      obtain ⟨⟨src, ok1⟩, hn1, h⟩ := Option.bind_eq_some_iff.mp h
      obtain ⟨⟨dst, ok2⟩, hn2, h⟩ := Option.bind_eq_some_iff.mp h
      obtain ⟨⟨pS, okS⟩, hsz, h⟩ := Option.bind_eq_some_iff.mp h
      unfold sizesF at hsz
      obtain ⟨⟨ibs, b1⟩, h1, hsz⟩ := Option.bind_eq_some_iff.mp hsz
      obtain ⟨⟨obs, b2⟩, h2, hsz⟩ := Option.bind_eq_some_iff.mp hsz
      obtain ⟨⟨cbs, b3⟩, h3, hsz⟩ := Option.bind_eq_some_iff.mp hsz
      obtain ⟨⟨bs, b4⟩, h4, hsz⟩ := Option.bind_eq_some_iff.mp hsz
      obtain ⟨⟨skip, b5⟩, h5, hsz⟩ := Option.bind_eq_some_iff.mp hsz
      obtain ⟨⟨seek, b6⟩, h6, hsz⟩ := Option.bind_eq_some_iff.mp hsz
      obtain ⟨⟨count, b7⟩, h7, hsz⟩ := Option.bind_eq_some_iff.mp hsz
      have hsz2 := Option.some.inj hsz
      have HPS := Aside0.mk (congrArg Prod.fst hsz2)
      have HOS := Aside0.mk (congrArg Prod.snd hsz2)
      obtain ⟨⟨pE, okE⟩, hfl⟩ : ∃ s, s = flagsF o (pS, okS) := ⟨_, rfl⟩
      have HN1 := Aside0.mk hn1
      have HN2 := Aside0.mk hn2
      have E1 := Aside0.mk h1
      have E2 := Aside0.mk h2
      have E3 := Aside0.mk h3
      have E4 := Aside0.mk h4
      have E5 := Aside0.mk h5
      have E6 := Aside0.mk h6
      have E7 := Aside0.mk h7
      have HFL := Aside0.mk hfl.symm
      rw [← hfl] at h
      have HH := Aside0.mk h
      clear h hsz hsz2 hn1 hn2 h1 h2 h3 h4 h5 h6 h7 hfl
      go_enter Tryd.func6, Tryd.ntmps6
      go_upto_region 3 with (first
        | ((with_reducible refine gate_dst (N := 2) rfl ?_); refine box_e 2 zeroPL.c 25 ?_; intro gr hg w1 hbox hb; have BR := Aside0.mk hbox; have HB := Aside0.mk hb; have HGR := Aside0.mk hg; clear hg hbox hb)
        | (go_at_call 8; (with_reducible refine (arg_Operands.calls k A0 c0 l0 o true _ (Kd.C_below HR0.out HB.out) HC0.out HO.out (HT.out.below HB.out)).mono ?_); rintro e w2 ⟨v0, rfl, hr, hb⟩; obtain ⟨A, c, ev⟩ := Kd.R_slice hr; subst ev; have HK := Aside0.mk (Kd.R_reads' hr).2.2; have HKc := Aside0.mk (Kd.R_reads' hr).2.1; replace BR := Aside0.mk (blk_below BR.out hb); replace HB := Aside0.mk (below_step HB.out hb); clear hr hb)
        | (go_at_call 9; generalize hW : World.alloc _ _ = wz; have HZ := Aside0.mk (show Below w2.heap.size w2 wz by {rw [← hW]; exact below_alloc (Below.refl _ _) _}); have hk : Kd.C Kd.string wz (some ⟨w2.heap.size, 0, none⟩) keysW.length keysW := by {rw [← hW]; exact (Kd.R_reads' (split_owns w2 keysW 11 rfl (by unfold maxLen; omega))).2.2}; clear hW; have hq := arg_Only.calls A c o (some ⟨w2.heap.size, 0, none⟩) 11 keysW true wz (Kd.C_below HK.out HZ.out) HKc.out hk (by decide) HON.out; refine hq.mono ?_; clear hq; rintro e w3 ⟨rfl, hb⟩; replace BR := Aside0.mk (blk_below (blk_below BR.out HZ.out) hb); have HB3 := Aside0.mk hb; replace HB := Aside0.mk (below_step (below_step HB.out HZ.out) hb); clear hk hb))
      replace HK := Aside0.mk (Kd.C_below (Kd.C_below HK.out HZ.out) HB3.out)
      replace HT := Aside0.mk (HT.out.below HB.out)
      clear HZ HB3
      go_upto_region 5 with (fail)
      generalize hW : World.alloc w3 _ = w4
      obtain ⟨g, hg⟩ : ∃ g, g = w3.heap.size := ⟨_, rfl⟩
      rw [← hg]
      have hbox : w4.heap[g]? = some (.cells #[.slice A o.length c, .bool true] 43 (0, 0)) := by rw [← hW, hg]; exact blk_new _ _
      have hb : Below w3.heap.size w3 w4 := by rw [← hW]; exact below_alloc (Below.refl _ _) _
      have HR := Aside0.mk (show RD w3 w4 g A c o true from ⟨hbox, Nat.le_of_eq hg.symm, HK.out, HKc.out, hb⟩)
      have N1 := Aside0.mk (show gr ≠ g from by rw [hg]; exact Nat.ne_of_lt (blk_lt BR.out))
      replace BR := Aside0.mk (blk_below BR.out hb)
      clear hg hbox hb hW
      go_upto_region 6 with (first
        | (go_at_call 10; (with_reducible refine (name_walk k w3 _ g A c o true ⟨#[105, 102]⟩ src ok1 HR.out HN1.out).mono ?_); rintro e w5 ⟨rfl, hr, hf⟩; replace HR := Aside0.mk hr; replace BR := Aside0.mk (hf gr _ _ N1.out BR.out); clear hr hf)
        | (go_at_call 10; (with_reducible refine (name_walk k w3 _ g A c o ok1 ⟨#[111, 102]⟩ dst ok2 HR.out HN2.out).mono ?_); rintro e w6 ⟨rfl, hr, hf⟩; replace HR := Aside0.mk hr; replace BR := Aside0.mk (hf gr _ _ N1.out BR.out); clear hr hf)
        | ((with_reducible refine gate_dst (N := 7) rfl ?_); refine box_e 7 zeroPL.c 25 ?_; intro gp hg w7 hbox hb; have HP := Aside0.mk hbox; have N2 := Aside0.mk (show gr ≠ gp from by rw [hg]; exact Nat.ne_of_lt (blk_lt BR.out)); have N3 := Aside0.mk (show g ≠ gp from by rw [hg]; exact Nat.ne_of_lt (blk_lt HR.out.1)); have HG0 := Aside0.mk (show w3.heap.size ≤ gp from by rw [hg]; exact below_size HR.out.2.2.2.2); replace BR := Aside0.mk (blk_below BR.out hb); replace HR := Aside0.mk (HR.out.bel hb); clear hg hbox hb)
        | ((with_reducible refine gate_store (t := 25) (p := 7) rfl ?_); refine store_event (t := 25) (p := 7) (v := .tmp 29) (w1 := (World.setRow w7 gp ({ zeroPL with src := src, dst := dst } : PL).c)) ?hg3 ?ho3 ?hn3 ?hr3 ?_; (case ho3 => rfl); (case hg3 => rfl); (case hn3 => rfl); (case hr3 => exact store_ev (tp := 7) (tv := 29) (p := zeroPL) (q := ({ zeroPL with src := src, dst := dst } : PL)) rfl rfl rfl HP.out); intro w8 hw; replace BR := Aside0.mk (show w8.heap[gr]? = some (.cells zeroPL.c 25 (0, 0)) by {rw [hw, setRow_other _ gp gr _ N2.out]; exact BR.out}); replace HR := Aside0.mk (show RD w3 w8 g A c o ok2 by {rw [hw]; exact ⟨(setRow_other _ gp g _ N3.out).trans HR.out.1, HR.out.2.1, HR.out.2.2.1, HR.out.2.2.2.1, below_setRow HR.out.2.2.2.2 HG0.out _⟩}); replace HP := Aside0.mk (show w8.heap[gp]? = some (.cells ({ zeroPL with src := src, dst := dst } : PL).c 25 (0, 0)) by {rw [hw]; exact setRow_heap _ gp _ _ 25 (0, 0) HP.out}); clear hw))
      go_upto_region 8 with (first
        | (go_at_call 11; (with_reducible refine (sizes_walk k gp w3 _ g A c o ok2 ({ zeroPL with src := src, dst := dst } : PL) HR.out HT.out HP.out HG0.out N3.out ibs obs cbs bs skip seek count b1 b2 b3 b4 b5 b6 b7 E1.out E2.out E3.out E4.out E5.out E6.out E7.out).mono ?_); rw [HOS.out, HPS.out]; rintro e w9 ⟨rfl, hr, hp, hf⟩; replace HR := Aside0.mk hr; replace HP := Aside0.mk hp; replace BR := Aside0.mk (hf gr _ _ N1.out N2.out BR.out); clear hr hp hf)
        | (go_at_call 12; (with_reducible refine (flags_walk gp w3 _ g A c o okS pS pE okE HR.out HT.out HP.out HG0.out N3.out HL.out HS.out HFL.out).mono ?_); rintro e w10 ⟨rfl, hr, hp, hf⟩; replace HR := Aside0.mk hr; replace HP := Aside0.mk hp; replace BR := Aside0.mk (hf gr _ _ N1.out N2.out BR.out); clear hr hp hf))
      have h := HH.out
      clear HH HPS HOS E1 E2 E3 E4 E5 E6 E7 HN1 HN2 HFL HON HO HR0 HC0
      unfold tailF at h
      obtain ⟨i0, i1, j0, j1⟩ := c2_ ⟨HR.out.1⟩
      cases okE with
      | false =>
        rw [if_neg (by simp)] at h
        obtain ⟨rfl, rfl⟩ : zeroPL = r ∧ 2 = rc := by simpa using h
        clear h
        replace HB := Aside0.mk (below_step HB.out HR.out.2.2.2.2)
        go_wp2_with (first
          | ((with_reducible refine gate_store (t := 25) (p := 2) rfl ?_); refine store_event (t := 25) (p := 2) (v := .tmp 44) (w1 := (World.setRow w10 gr zeroPL.c)) ?hg4 ?ho4 ?hn4 ?hr4 ?_; (case ho4 => rfl); (case hg4 => rfl); (case hn4 => rfl); (case hr4 => exact store_ev (tp := 2) (tv := 44) (p := zeroPL) (q := zeroPL) rfl rfl rfl BR.out); intro w9 hw; replace BR := Aside0.mk (show w9.heap[gr]? = some (.cells zeroPL.c 25 (0, 0)) by {rw [hw]; exact setRow_heap _ gr _ _ 25 (0, 0) BR.out}); replace HB := Aside0.mk (show Below w.heap.size w w9 by {rw [hw]; exact below_setRow HB.out (Nat.le_of_eq HGR.out.symm) _}); clear hw))
        refine bodyPost_ret (results_ct rfl _ _ gr 25 zeroPL.c (0, 0) _ rfl BR.out Tryd.underlying25 rfl (by kernel_rfl)) rfl ?_
        exact ⟨rfl, HB.out⟩
      | true =>
        rw [if_pos rfl] at h
        obtain ⟨m, hm, h⟩ := Option.bind_eq_some_iff.mp h
        have HM := Aside0.mk (show operand_may.f k pE.swab pE.block pE.unblock pE.lcase pE.ucase pE.ascii pE.ebcdic pE.ibm pE.cbs pE.src pE.dst pE.ibs pE.obs pE.skip pE.seek pE.count pE.all pE.direct pE.full pE.sync pE.noerror pE.notrunc pE.sparse pE.fsync pE.excl pE.nocreat = some m from hm)
        clear hm
        cases m with
        | false =>
          rw [if_neg (by simp)] at h
          obtain ⟨rfl, rfl⟩ : zeroPL = r ∧ 2 = rc := by simpa using h
          clear h
          go_upto_region 9 with (first
            | ((with_reducible refine gate_dst (N := 40) rfl ?_); refine load_event (.agg pE.c) (by rfl) (load_ev (tp := 7) rfl rfl HP.out) ?_)
            | (go_at_call 13; refine (operand_may.calls k pE.swab pE.block pE.unblock pE.lcase pE.ucase pE.ascii pE.ebcdic pE.ibm pE.cbs pE.src pE.dst pE.ibs pE.obs pE.skip pE.seek pE.count pE.all pE.direct pE.full pE.sync pE.noerror pE.notrunc pE.sparse pE.fsync pE.excl pE.nocreat false _ HM.out).mono ?_; rintro e w11 ⟨rfl, hb⟩; replace HR := Aside0.mk (HR.out.bel hb); replace HP := Aside0.mk (blk_below HP.out hb); replace BR := Aside0.mk (blk_below BR.out hb); clear hb; clear i0 i1 j0 j1; obtain ⟨i0, i1, j0, j1⟩ := c2_ ⟨HR.out.1⟩))
          replace HB := Aside0.mk (below_step HB.out HR.out.2.2.2.2)
          go_wp2_with (first
            | ((with_reducible refine gate_store (t := 25) (p := 2) rfl ?_); refine store_event (t := 25) (p := 2) (v := .tmp 44) (w1 := (World.setRow w11 gr zeroPL.c)) ?hg5 ?ho5 ?hn5 ?hr5 ?_; (case ho5 => rfl); (case hg5 => rfl); (case hn5 => rfl); (case hr5 => exact store_ev (tp := 2) (tv := 44) (p := zeroPL) (q := zeroPL) rfl rfl rfl BR.out); intro w9 hw; replace BR := Aside0.mk (show w9.heap[gr]? = some (.cells zeroPL.c 25 (0, 0)) by {rw [hw]; exact setRow_heap _ gr _ _ 25 (0, 0) BR.out}); replace HB := Aside0.mk (show Below w.heap.size w w9 by {rw [hw]; exact below_setRow HB.out (Nat.le_of_eq HGR.out.symm) _}); clear hw))
          refine bodyPost_ret (results_ct rfl _ _ gr 25 zeroPL.c (0, 0) _ rfl BR.out Tryd.underlying25 rfl (by kernel_rfl)) rfl ?_
          exact ⟨rfl, HB.out⟩
        | true =>
          rw [if_pos rfl] at h
          obtain ⟨rfl, rfl⟩ : { pE with direct := hasT o ⟨#[98, 115]⟩ && !convertsF pE } = r ∧ 0 = rc := by simpa using h
          clear h
          obtain ⟨hb0, hhb⟩ : ∃ b, b = hasT o ⟨#[98, 115]⟩ := ⟨_, rfl⟩
          have HBS := Aside0.mk hhb.symm
          clear hhb
          cases hb0 with
          | false =>
            go_upto_region 11 with (first
              | ((with_reducible refine gate_dst (N := 40) rfl ?_); refine load_event (.agg pE.c) (by rfl) (load_ev (tp := 7) rfl rfl HP.out) ?_)
              | (go_at_call 13; refine (operand_may.calls k pE.swab pE.block pE.unblock pE.lcase pE.ucase pE.ascii pE.ebcdic pE.ibm pE.cbs pE.src pE.dst pE.ibs pE.obs pE.skip pE.seek pE.count pE.all pE.direct pE.full pE.sync pE.noerror pE.notrunc pE.sparse pE.fsync pE.excl pE.nocreat true _ HM.out).mono ?_; rintro e w11 ⟨rfl, hb⟩; replace HR := Aside0.mk (HR.out.bel hb); replace HP := Aside0.mk (blk_below HP.out hb); replace BR := Aside0.mk (blk_below BR.out hb); clear hb; clear i0 i1 j0 j1; obtain ⟨i0, i1, j0, j1⟩ := c2_ ⟨HR.out.1⟩)
              | (go_at_call 14; (with_reducible refine (has_walk w3 _ g A c o true ⟨#[98, 115]⟩ HR.out).mono ?_); rw [HBS.out]; rintro e w12 ⟨rfl, hb⟩; replace HR := Aside0.mk (HR.out.bel hb); replace HP := Aside0.mk (blk_below HP.out hb); replace BR := Aside0.mk (blk_below BR.out hb); clear hb; clear i0 i1 j0 j1; obtain ⟨i0, i1, j0, j1⟩ := c2_ ⟨HR.out.1⟩; have a17 := (blk_cell HP.out 17).trans (show _ = some (.bool pE.direct) from rfl); have ff17 := blk_frozen HP.out 17))
            generalize hW : World.setCell _ _ _ = wz
            have HB2 := Aside0.mk (show Below w3.heap.size w3 wz by {rw [← hW]; exact below_set HR.out.2.2.2.2 HG0.out})
            replace BR := Aside0.mk (show wz.heap[gr]? = some (.cells zeroPL.c 25 (0, 0)) by {rw [← hW]; exact blk_far BR.out N2.out _})
            replace HP := Aside0.mk (show wz.heap[gp]? = some (.cells ({ pE with direct := false } : PL).c 25 (0, 0)) by {rw [← hW]; exact blk_set HP.out 17 _})
            clear hW ff17 a17 i0 i1 j0 j1
            replace HB := Aside0.mk (below_step HB.out HB2.out)
            have GR0 := Aside0.mk (Nat.le_of_eq HGR.out.symm)
            go_wp2_with (first
              | ((with_reducible refine gate_dst (N := 54) rfl ?_); refine load_event (.agg ({ pE with direct := false } : PL).c) (by rfl) (load_ev (tp := 7) rfl rfl HP.out) ?_)
              | ((with_reducible refine gate_store (t := 25) (p := 2) rfl ?_); refine store_event (t := 25) (p := 2) (v := .tmp 54) (w1 := (World.setRow wz gr ({ pE with direct := false } : PL).c)) ?hg6 ?ho6 ?hn6 ?hr6 ?_; (case ho6 => rfl); (case hg6 => rfl); (case hn6 => rfl); (case hr6 => exact store_ev (tp := 2) (tv := 54) (p := zeroPL) (q := ({ pE with direct := false } : PL)) rfl rfl rfl BR.out); intro w14 hw; replace BR := Aside0.mk (show w14.heap[gr]? = some (.cells ({ pE with direct := false } : PL).c 25 (0, 0)) by {rw [hw]; exact setRow_heap _ gr _ _ 25 (0, 0) BR.out}); replace HB := Aside0.mk (show Below w.heap.size w w14 by {rw [hw]; exact below_setRow HB.out GR0.out _}); clear hw))
            refine bodyPost_ret (results_ct rfl _ _ gr 25 ({ pE with direct := false } : PL).c (0, 0) _ rfl BR.out Tryd.underlying25 rfl (by kernel_rfl)) rfl ?_
            exact ⟨by rw [HBS.out]; rfl, HB.out⟩
          | true =>
            obtain ⟨cv, hcv⟩ : ∃ b, b = convertsF pE := ⟨_, rfl⟩
            have HCV := Aside0.mk (show operand_converts.f pE.swab pE.block pE.unblock pE.lcase pE.ucase pE.ascii pE.ebcdic pE.ibm pE.cbs = some cv from by rw [hcv]; rfl)
            have HCV2 := Aside0.mk hcv
            clear hcv
            go_upto_region 11 with (first
              | ((with_reducible refine gate_dst (N := 40) rfl ?_); refine load_event (.agg pE.c) (by rfl) (load_ev (tp := 7) rfl rfl HP.out) ?_)
              | (go_at_call 13; refine (operand_may.calls k pE.swab pE.block pE.unblock pE.lcase pE.ucase pE.ascii pE.ebcdic pE.ibm pE.cbs pE.src pE.dst pE.ibs pE.obs pE.skip pE.seek pE.count pE.all pE.direct pE.full pE.sync pE.noerror pE.notrunc pE.sparse pE.fsync pE.excl pE.nocreat true _ HM.out).mono ?_; rintro e w11 ⟨rfl, hb⟩; replace HR := Aside0.mk (HR.out.bel hb); replace HP := Aside0.mk (blk_below HP.out hb); replace BR := Aside0.mk (blk_below BR.out hb); clear hb; clear i0 i1 j0 j1; obtain ⟨i0, i1, j0, j1⟩ := c2_ ⟨HR.out.1⟩)
              | (go_at_call 14; (with_reducible refine (has_walk w3 _ g A c o true ⟨#[98, 115]⟩ HR.out).mono ?_); rw [HBS.out]; rintro e w12 ⟨rfl, hb⟩; replace HR := Aside0.mk (HR.out.bel hb); replace HP := Aside0.mk (blk_below HP.out hb); replace BR := Aside0.mk (blk_below BR.out hb); clear hb; clear i0 i1 j0 j1; obtain ⟨i0, i1, j0, j1⟩ := c2_ ⟨HR.out.1⟩; have a17 := (blk_cell HP.out 17).trans (show _ = some (.bool pE.direct) from rfl); have ff17 := blk_frozen HP.out 17)
              | ((with_reducible refine gate_dst (N := 49) rfl ?_); refine load_event (.agg #[.bool pE.swab, .bool pE.block, .bool pE.unblock, .bool pE.lcase, .bool pE.ucase, .bool pE.ascii, .bool pE.ebcdic, .bool pE.ibm, .int .i64 pE.cbs]) (by rfl) (load_ev23 (tp := 48) (p := pE) rfl rfl HP.out) ?_)
              | (go_at_call 15; (with_reducible refine (operand_converts.calls pE.swab pE.block pE.unblock pE.lcase pE.ucase pE.ascii pE.ebcdic pE.ibm pE.cbs cv _ HCV.out).mono ?_); rintro e w13 ⟨rfl, hb⟩; replace HR := Aside0.mk (HR.out.bel hb); replace HP := Aside0.mk (blk_below HP.out hb); replace BR := Aside0.mk (blk_below BR.out hb); clear hb ff17 a17; clear i0 i1 j0 j1; obtain ⟨i0, i1, j0, j1⟩ := c2_ ⟨HR.out.1⟩; have a17 := (blk_cell HP.out 17).trans (show _ = some (.bool pE.direct) from rfl); have ff17 := blk_frozen HP.out 17))
            generalize hW : World.setCell _ _ _ = wz
            have HB2 := Aside0.mk (show Below w3.heap.size w3 wz by {rw [← hW]; exact below_set HR.out.2.2.2.2 HG0.out})
            replace BR := Aside0.mk (show wz.heap[gr]? = some (.cells zeroPL.c 25 (0, 0)) by {rw [← hW]; exact blk_far BR.out N2.out _})
            replace HP := Aside0.mk (show wz.heap[gp]? = some (.cells ({ pE with direct := !cv } : PL).c 25 (0, 0)) by {rw [← hW]; exact blk_set HP.out 17 _})
            clear hW ff17 a17 i0 i1 j0 j1
            replace HB := Aside0.mk (below_step HB.out HB2.out)
            have GR0 := Aside0.mk (Nat.le_of_eq HGR.out.symm)
            go_wp2_with (first
              | ((with_reducible refine gate_dst (N := 54) rfl ?_); refine load_event (.agg ({ pE with direct := !cv } : PL).c) (by rfl) (load_ev (tp := 7) rfl rfl HP.out) ?_)
              | ((with_reducible refine gate_store (t := 25) (p := 2) rfl ?_); refine store_event (t := 25) (p := 2) (v := .tmp 54) (w1 := (World.setRow wz gr ({ pE with direct := !cv } : PL).c)) ?hg7 ?ho7 ?hn7 ?hr7 ?_; (case ho7 => rfl); (case hg7 => rfl); (case hn7 => rfl); (case hr7 => exact store_ev (tp := 2) (tv := 54) (p := zeroPL) (q := ({ pE with direct := !cv } : PL)) rfl rfl rfl BR.out); intro w14 hw; replace BR := Aside0.mk (show w14.heap[gr]? = some (.cells ({ pE with direct := !cv } : PL).c 25 (0, 0)) by {rw [hw]; exact setRow_heap _ gr _ _ 25 (0, 0) BR.out}); replace HB := Aside0.mk (show Below w.heap.size w w14 by {rw [hw]; exact below_setRow HB.out GR0.out _}); clear hw))
            refine bodyPost_ret (results_ct rfl _ _ gr 25 ({ pE with direct := !cv } : PL).c (0, 0) _ rfl BR.out Tryd.underlying25 rfl (by kernel_rfl)) rfl ?_
            exact ⟨by rw [HBS.out, HCV2.out]; rfl, HB.out⟩
end Go.Proofs.YtbmhfnncagncmaaDoor.P
