import Derived.Test.YtbmhfnncagncmaaGreatDoorPx17
import Derived.Test.YtbmhfnncagncmaaGreatDoorPx18
import Derived.Test.YtbmhfnncagncmaaGreatDoorPx21
import Derived.Test.YtbmhfnncagncmaaGreatDoorPx27
import Derived.Test.YtbmhfnncagncmaaGreatDoorOprZ
namespace Go.Proofs.YtbmhfnncagncmaaGreatDoor.P
open Go.RowKit Go.Proofs.YtbmhfnncagncmaaGreatDoorW.PrintWords Go.Proofs.YtbmhfnncagncmaaGreatDoorW.PrintLast
set_option linter.unusedVariables false
set_option linter.unusedSimpArgs false
def badR : Option (PL × Int) := some (zeroPL, 2)
def wordsP (k : Nat) (p : PL) (o : List S68) : Option (Bool × PL) := (salvorref22_words.f k p.swab p.block p.unblock p.lcase p.ucase p.ascii p.ebcdic p.ibm p.cbs p.src p.dst p.ibs p.obs p.skip p.seek p.count p.all p.direct p.full p.sync p.noerror p.notrunc p.sparse p.fsync p.excl p.nocreat o).map fun x => (x.1, ⟨x.2.1, x.2.2.1, x.2.2.2.1, x.2.2.2.2.1, x.2.2.2.2.2.1, x.2.2.2.2.2.2.1, x.2.2.2.2.2.2.2.1, x.2.2.2.2.2.2.2.2.1, x.2.2.2.2.2.2.2.2.2.1, x.2.2.2.2.2.2.2.2.2.2.1, x.2.2.2.2.2.2.2.2.2.2.2.1, x.2.2.2.2.2.2.2.2.2.2.2.2.1, x.2.2.2.2.2.2.2.2.2.2.2.2.2.1, x.2.2.2.2.2.2.2.2.2.2.2.2.2.2.1, x.2.2.2.2.2.2.2.2.2.2.2.2.2.2.2.1, x.2.2.2.2.2.2.2.2.2.2.2.2.2.2.2.2.1, x.2.2.2.2.2.2.2.2.2.2.2.2.2.2.2.2.2.1, x.2.2.2.2.2.2.2.2.2.2.2.2.2.2.2.2.2.2.1, x.2.2.2.2.2.2.2.2.2.2.2.2.2.2.2.2.2.2.2.1, x.2.2.2.2.2.2.2.2.2.2.2.2.2.2.2.2.2.2.2.2.1, x.2.2.2.2.2.2.2.2.2.2.2.2.2.2.2.2.2.2.2.2.2.1, x.2.2.2.2.2.2.2.2.2.2.2.2.2.2.2.2.2.2.2.2.2.2.1, x.2.2.2.2.2.2.2.2.2.2.2.2.2.2.2.2.2.2.2.2.2.2.2.1, x.2.2.2.2.2.2.2.2.2.2.2.2.2.2.2.2.2.2.2.2.2.2.2.2.1, x.2.2.2.2.2.2.2.2.2.2.2.2.2.2.2.2.2.2.2.2.2.2.2.2.2.1, x.2.2.2.2.2.2.2.2.2.2.2.2.2.2.2.2.2.2.2.2.2.2.2.2.2.2⟩)
def directF (p : PL) (bs : Int) : Bool := decide (0 < bs) && (!p.swab && (!p.block && (!p.unblock && (!p.lcase && (!p.ucase && (!p.ascii && (!p.ebcdic && !p.ibm)))))))
def rtailF (k : Nat) (o : List S68) (p : PL) (bs : Int) : Option (PL × Int) :=
 (salvorref6_Find.f k o ⟨#[99, 111, 117, 110, 116]⟩).bind fun c => (salvorref1_Mul.f k [p.skip, p.ibs]).bind fun m1 => (salvorref1_Mul.f k [p.seek, p.obs]).bind fun m2 => (salvorref6_MayConvs.f k p.swab p.block p.unblock p.lcase p.ucase p.ascii p.ebcdic p.ibm p.cbs).bind fun mc =>
  if mc = true then if (p.excl && p.nocreat) = true then badR else if m1.2 = true then if m2.2 = true then if 1099511627776 < m2.1 then badR else some ({ p with all := !c.2, direct := directF p bs }, 0) else badR else badR else badR
def rnumF (k : Nat) (o : List S68) (p : PL) : Option (PL × Int) :=
 (salvorref22_num.f k o ⟨#[98, 115]⟩ 1 4096 0).bind fun n1 => (salvorref22_num.f k o ⟨#[105, 98, 115]⟩ 1 4096 512).bind fun n2 => (salvorref22_num.f k o ⟨#[111, 98, 115]⟩ 1 4096 512).bind fun n3 => (salvorref22_num.f k o ⟨#[99, 98, 115]⟩ 1 4096 0).bind fun n4 => (salvorref22_num.f k o ⟨#[115, 107, 105, 112]⟩ 0 4611686018427387904 0).bind fun n5 => (salvorref22_num.f k o ⟨#[115, 101, 101, 107]⟩ 0 4611686018427387904 0).bind fun n6 => (salvorref22_num.f k o ⟨#[99, 111, 117, 110, 116]⟩ 0 4611686018427387904 0).bind fun n7 =>
  if n1.2 = true then if n2.2 = true then if n3.2 = true then if n4.2 = true then if n5.2 = true then if n6.2 = true then if n7.2 = true then rtailF k o { p with ibs := if 0 < n1.1 then n1.1 else n2.1, obs := if 0 < n1.1 then n1.1 else n3.1, cbs := n4.1, skip := n5.1, seek := n6.1, count := n7.1 } n1.1 else badR else badR else badR else badR else badR else badR else badR
def rnamesF (k : Nat) (o : List S68) : Option (PL × Int) :=
 (salvorref6_Find.f k o ⟨#[105, 102]⟩).bind fun a => (salvorref6_Find.f k o ⟨#[111, 102]⟩).bind fun b => (salvorref11_MayName.f k a.1).bind fun m1 => if m1 = true then (salvorref11_MayName.f k b.1).bind fun m2 => if m2 = true then if a.1.toList = b.1.toList then badR else (wordsP k { zeroPL with src := a.1, dst := b.1 } o).bind fun s => if s.1 = true then rnumF k o s.2 else badR else badR else badR
def rparseF (k : Nat) (l : List ByteArray) : Option (PL × Int) :=
 (salvorref6_Operands.f k l).bind fun x => if x.2 = true then (salvorref6_Only.f k x.1 keysW).bind fun on => if on = true then rnamesF k x.1 else badR else badR
theorem wordsP_walk (k : Nat) (g : Nat) (p : PL) (A : Option Addr) (c : Nat) (o : List S68) (b : Bool) (q : PL) (w0 w : World) (hp : w.heap[g]? = some (.cells p.c 28 (0, 0))) (hg : w0.heap.size ≤ g) (hB : Below w0.heap.size w0 w) (ho : Kd.C k68 w0 A o.length o) (hc : o.length ≤ c) (h : wordsP k p o = some (b, q)) :
  Calls Tryz.prog 22 #[.pointer (some ⟨g, 0, none⟩), .slice A o.length c] w fun e w' => e = .returned (.bool b) ∧ w'.heap[g]? = some (.cells q.c 28 (0, 0)) ∧ Below w0.heap.size w0 w' ∧ KeepBut w w' g none := by
 obtain ⟨x, hx, he⟩ := Option.map_eq_some_iff.mp h
 obtain ⟨x1, x2, x3, x4, x5, x6, x7, x8, x9, x10, x11, x12, x13, x14, x15, x16, x17, x18, x19, x20, x21, x22, x23, x24, x25, x26, x27⟩ := x
 obtain ⟨rfl, rfl⟩ : x1 = b ∧ (⟨x2, x3, x4, x5, x6, x7, x8, x9, x10, x11, x12, x13, x14, x15, x16, x17, x18, x19, x20, x21, x22, x23, x24, x25, x26, x27⟩ : PL) = q := by simpa using he
 refine (salvorref22_words.calls k g p.swab p.block p.unblock p.lcase p.ucase p.ascii p.ebcdic p.ibm p.cbs p.src p.dst p.ibs p.obs p.skip p.seek p.count p.all p.direct p.full p.sync p.noerror p.notrunc p.sparse p.fsync p.excl p.nocreat A c o x1 x2 x3 x4 x5 x6 x7 x8 x9 x10 x11 x12 x13 x14 x15 x16 x17 x18 x19 x20 x21 x22 x23 x24 x25 x26 x27 w0 w ⟨hp, hg⟩ hB (Kd.C_foot_came (Kd.heap_iso _ (Kd.heap_pair Kd.heap_string Kd.heap_string)) ho hB hg) hc hx).mono ?_
 rintro e w' ⟨rfl, hI, hb, hk⟩
 exact ⟨rfl, hI.1, hb, hk⟩
set_option maxHeartbeats 20000000 in
set_option maxRecDepth 100000 in
theorem rparse_walk (k : Nat) (A0 : Option Addr) (c0 : Nat) (l0 : List ByteArray) (r : PL) (rc : Int) (w : World) (hr0 : Kd.C Kd.string w A0 l0.length l0) (hc0 : l0.length ≤ c0) (h : rparseF k l0 = some (r, rc)) :
  Calls Tryz.prog 8 #[.slice A0 l0.length c0] w fun e w' => e = .returned (.tuple #[.agg r.c, .int .i64 rc]) ∧ Below w.heap.size w w' := by
 unfold rparseF at h
 obtain ⟨⟨o, ok⟩, ho, h⟩ := Option.bind_eq_some_iff.mp h
 have HR0 := Aside0.mk hr0
 have HC0 := Aside0.mk hc0
 have HO := Aside0.mk ho
 clear hr0 hc0 ho
 cases ok with
 | false =>
  rw [if_neg (by simp)] at h
  obtain ⟨rfl, rfl⟩ : zeroPL = r ∧ 2 = rc := by simpa [badR] using h
  clear h
  go_enter Tryz.func8, Tryz.ntmps8
  go_upto_region 3 with (first
   | ((with_reducible refine gate_dst (N := 2) rfl ?_); refine box_e 2 zeroPL.c 28 ?_; intro gr hg w1 hbox hb; have BR := Aside0.mk hbox; have HB := Aside0.mk hb; have HGR := Aside0.mk hg; clear hg hbox hb)
   | (go_at_call 18; (with_reducible refine (salvorref6_Operands.calls k A0 c0 l0 o false _ (Kd.C_below HR0.out HB.out) HC0.out HO.out).mono ?_); rintro e w2 ⟨v0, rfl, hr, hb⟩; obtain ⟨A, c, ev⟩ := Kd.R_slice hr; subst ev; have HK := Aside0.mk (Kd.R_reads' hr).2.2; have HKc := Aside0.mk (Kd.R_reads' hr).2.1; replace BR := Aside0.mk (blk_below BR.out hb); replace HB := Aside0.mk (below_step HB.out hb); clear hr hb))
  go_wp2_with (first
   | ((with_reducible refine gate_store (t := 28) (p := 2) rfl ?_); refine store_event (t := 28) (p := 2) (v := .tmp 40) (w1 := (World.setRow w2 gr zeroPL.c)) ?hg_1 ?ho_1 ?hn_1 ?hr_1 ?_; (case ho_1 => rfl); (case hg_1 => rfl); (case hn_1 => rfl); (case hr_1 => exact store_ev (tp := 2) (tv := 40) (p := zeroPL) (q := zeroPL) rfl rfl rfl BR.out); intro wz9 hw; replace BR := Aside0.mk (show wz9.heap[gr]? = some (.cells zeroPL.c 28 (0, 0)) by {rw [hw]; exact setRow_heap _ gr _ _ 28 (0, 0) BR.out}); replace HB := Aside0.mk (show Below w.heap.size w wz9 by {rw [hw]; exact below_setRow HB.out (Nat.le_of_eq HGR.out.symm) _}); clear hw))
  refine bodyPost_ret (results_ct rfl _ _ gr 28 zeroPL.c (0, 0) _ rfl BR.out Tryz.underlying28 rfl (by kernel_rfl)) rfl ?_
  exact ⟨rfl, HB.out⟩
 | true =>
  rw [if_pos rfl] at h
  obtain ⟨on, hon, h⟩ := Option.bind_eq_some_iff.mp h
  have HON := Aside0.mk hon
  clear hon
  cases on with
  | false =>
   rw [if_neg (by simp)] at h
   obtain ⟨rfl, rfl⟩ : zeroPL = r ∧ 2 = rc := by simpa [badR] using h
   clear h
   go_enter Tryz.func8, Tryz.ntmps8
   go_upto_region 3 with (first
    | ((with_reducible refine gate_dst (N := 2) rfl ?_); refine box_e 2 zeroPL.c 28 ?_; intro gr hg w1 hbox hb; have BR := Aside0.mk hbox; have HB := Aside0.mk hb; have HGR := Aside0.mk hg; clear hg hbox hb)
    | (go_at_call 18; (with_reducible refine (salvorref6_Operands.calls k A0 c0 l0 o true _ (Kd.C_below HR0.out HB.out) HC0.out HO.out).mono ?_); rintro e w2 ⟨v0, rfl, hr, hb⟩; obtain ⟨A, c, ev⟩ := Kd.R_slice hr; subst ev; have HK := Aside0.mk (Kd.R_reads' hr).2.2; have HKc := Aside0.mk (Kd.R_reads' hr).2.1; replace BR := Aside0.mk (blk_below BR.out hb); replace HB := Aside0.mk (below_step HB.out hb); clear hr hb)
    | (go_at_call 19; generalize hW : World.alloc _ _ = wz; have HZ := Aside0.mk (show Below w2.heap.size w2 wz by {rw [← hW]; exact below_alloc (Below.refl _ _) _}); have hk : Kd.C Kd.string wz (some ⟨w2.heap.size, 0, none⟩) keysW.length keysW := by {rw [← hW]; exact (Kd.R_reads' (split_owns w2 keysW 11 rfl (by unfold maxLen; omega))).2.2}; clear hW; have hq := salvorref6_Only.calls k A c o (some ⟨w2.heap.size, 0, none⟩) 11 keysW false wz (Kd.C_below HK.out HZ.out) HKc.out hk (by decide) HON.out; refine hq.mono ?_; clear hq; rintro e w3 ⟨rfl, hb⟩; replace hb := d0b hb; replace BR := Aside0.mk (blk_below (blk_below BR.out HZ.out) hb); replace HB := Aside0.mk (below_step (below_step HB.out HZ.out) hb); have HB3 := Aside0.mk hb; clear hk hb))
   go_wp2_with (first
    | ((with_reducible refine gate_store (t := 28) (p := 2) rfl ?_); refine store_event (t := 28) (p := 2) (v := .tmp 40) (w1 := (World.setRow w3 gr zeroPL.c)) ?hg_2 ?ho_2 ?hn_2 ?hr_2 ?_; (case ho_2 => rfl); (case hg_2 => rfl); (case hn_2 => rfl); (case hr_2 => exact store_ev (tp := 2) (tv := 40) (p := zeroPL) (q := zeroPL) rfl rfl rfl BR.out); intro wz9 hw; replace BR := Aside0.mk (show wz9.heap[gr]? = some (.cells zeroPL.c 28 (0, 0)) by {rw [hw]; exact setRow_heap _ gr _ _ 28 (0, 0) BR.out}); replace HB := Aside0.mk (show Below w.heap.size w wz9 by {rw [hw]; exact below_setRow HB.out (Nat.le_of_eq HGR.out.symm) _}); clear hw))
   refine bodyPost_ret (results_ct rfl _ _ gr 28 zeroPL.c (0, 0) _ rfl BR.out Tryz.underlying28 rfl (by kernel_rfl)) rfl ?_
   exact ⟨rfl, HB.out⟩
  | true =>
   rw [if_pos rfl] at h
   unfold rnamesF at h
   obtain ⟨⟨src, fa⟩, hf1, h⟩ := Option.bind_eq_some_iff.mp h
   obtain ⟨⟨dst, fb⟩, hf2, h⟩ := Option.bind_eq_some_iff.mp h
   obtain ⟨m1, hm1, h⟩ := Option.bind_eq_some_iff.mp h
   have HF1 := Aside0.mk hf1
   have HF2 := Aside0.mk hf2
   have HM1 := Aside0.mk (show salvorref11_MayName.f k src = some m1 from hm1)
   clear hf1 hf2 hm1
   have HH := Aside0.mk h
   clear h
   go_enter Tryz.func8, Tryz.ntmps8
   go_upto_region 4 with (first
    | ((with_reducible refine gate_dst (N := 2) rfl ?_); refine box_e 2 zeroPL.c 28 ?_; intro gr hg w1 hbox hb; have BR := Aside0.mk hbox; have HB := Aside0.mk hb; have HGR := Aside0.mk hg; clear hg hbox hb)
    | (go_at_call 18; (with_reducible refine (salvorref6_Operands.calls k A0 c0 l0 o true _ (Kd.C_below HR0.out HB.out) HC0.out HO.out).mono ?_); rintro e w2 ⟨v0, rfl, hr, hb⟩; obtain ⟨A, c, ev⟩ := Kd.R_slice hr; subst ev; have HK := Aside0.mk (Kd.R_reads' hr).2.2; have HKc := Aside0.mk (Kd.R_reads' hr).2.1; replace BR := Aside0.mk (blk_below BR.out hb); replace HB := Aside0.mk (below_step HB.out hb); clear hr hb)
    | (go_at_call 19; generalize hW : World.alloc _ _ = wz; have HZ := Aside0.mk (show Below w2.heap.size w2 wz by {rw [← hW]; exact below_alloc (Below.refl _ _) _}); have hk : Kd.C Kd.string wz (some ⟨w2.heap.size, 0, none⟩) keysW.length keysW := by {rw [← hW]; exact (Kd.R_reads' (split_owns w2 keysW 11 rfl (by unfold maxLen; omega))).2.2}; clear hW; have hq := salvorref6_Only.calls k A c o (some ⟨w2.heap.size, 0, none⟩) 11 keysW true wz (Kd.C_below HK.out HZ.out) HKc.out hk (by decide) HON.out; refine hq.mono ?_; clear hq; rintro e w3 ⟨rfl, hb⟩; replace hb := d0b hb; replace BR := Aside0.mk (blk_below (blk_below BR.out HZ.out) hb); replace HB := Aside0.mk (below_step (below_step HB.out HZ.out) hb); have HB3 := Aside0.mk hb; clear hk hb))
   replace HK := Aside0.mk (Kd.C_below (Kd.C_below HK.out HZ.out) HB3.out)
   clear HZ HB3 HO HON HR0 HC0
   have HB0 := Aside0.mk HB.out
   go_upto_region 5 with (first
    | ((with_reducible refine gate_dst (N := 6) rfl ?_); refine box_e 6 zeroPL.c 28 ?_; intro gp hg w4 hbox hb; have HP := Aside0.mk hbox; have N2 := Aside0.mk (show gr ≠ gp from by rw [hg]; exact Nat.ne_of_lt (blk_lt BR.out)); have G0 := Aside0.mk (show w.heap.size ≤ gp from by rw [hg]; exact below_size HB.out); have G3 := Aside0.mk (Nat.le_of_eq hg.symm); replace BR := Aside0.mk (blk_below BR.out hb); replace HB := Aside0.mk (below_step HB.out hb); have HB3 := Aside0.mk hb; clear hg hbox hb))
   go_upto_region 6 with (first | (go_at_call 20; (with_reducible refine (salvorref6_Find.calls k A c o ⟨#[105, 102]⟩ src fa _ (Kd.C_below HK.out HB3.out) HKc.out HF1.out).mono ?_); rintro e w5 ⟨rfl, hb⟩; replace hb := d0b hb; replace BR := Aside0.mk (blk_below BR.out hb); replace HP := Aside0.mk (blk_below HP.out hb); replace HB := Aside0.mk (below_step HB.out hb); replace HB3 := Aside0.mk (below_step HB3.out hb); clear hb; have cc9 := (blk_cell HP.out 9).trans (show _ = some (.string ⟨#[]⟩) from rfl); have ff9 := blk_frozen HP.out 9))
   generalize hW : World.setCell _ _ _ = w6
   replace HB := Aside0.mk (show Below w.heap.size w w6 by {rw [← hW]; exact below_set HB.out G0.out})
   replace HB3 := Aside0.mk (show Below w3.heap.size w3 w6 by {rw [← hW]; exact below_set HB3.out G3.out})
   replace BR := Aside0.mk (show w6.heap[gr]? = some (.cells zeroPL.c 28 (0, 0)) by {rw [← hW]; exact blk_far BR.out N2.out _})
   replace HP := Aside0.mk (show w6.heap[gp]? = some (.cells ({ zeroPL with src := src } : PL).c 28 (0, 0)) by {rw [← hW]; exact blk_set HP.out 9 _})
   clear hW
   clear cc9 ff9
   go_upto_region 7 with (first | (go_at_call 20; (with_reducible refine (salvorref6_Find.calls k A c o ⟨#[111, 102]⟩ dst fb _ (Kd.C_below HK.out HB3.out) HKc.out HF2.out).mono ?_); rintro e w7 ⟨rfl, hb⟩; replace hb := d0b hb; replace BR := Aside0.mk (blk_below BR.out hb); replace HP := Aside0.mk (blk_below HP.out hb); replace HB := Aside0.mk (below_step HB.out hb); replace HB3 := Aside0.mk (below_step HB3.out hb); clear hb; have cc10 := (blk_cell HP.out 10).trans (show _ = some (.string ⟨#[]⟩) from rfl); have ff10 := blk_frozen HP.out 10))
   generalize hW : World.setCell _ _ _ = w8
   replace HB := Aside0.mk (show Below w.heap.size w w8 by {rw [← hW]; exact below_set HB.out G0.out})
   replace HB3 := Aside0.mk (show Below w3.heap.size w3 w8 by {rw [← hW]; exact below_set HB3.out G3.out})
   replace BR := Aside0.mk (show w8.heap[gr]? = some (.cells zeroPL.c 28 (0, 0)) by {rw [← hW]; exact blk_far BR.out N2.out _})
   replace HP := Aside0.mk (show w8.heap[gp]? = some (.cells ({ zeroPL with src := src, dst := dst } : PL).c 28 (0, 0)) by {rw [← hW]; exact blk_set HP.out 10 _})
   clear hW
   clear cc10 ff10 HF1 HF2
   have h := HH.out
   clear HH
   have cc9 := (blk_cell HP.out 9).trans (show _ = some (.string src) from rfl)
   have cc10 := (blk_cell HP.out 10).trans (show _ = some (.string dst) from rfl)
   cases m1 with
   | false =>
    rw [if_neg (by simp)] at h
    obtain ⟨rfl, rfl⟩ : zeroPL = r ∧ 2 = rc := by simpa [badR] using h
    clear h
    go_upto_region 8 with (first | (go_at_call 21; (with_reducible refine (salvorref11_MayName.calls k src false _ HM1.out).mono ?_); rintro e w9 ⟨rfl, hb⟩; replace hb := d0b hb; replace BR := Aside0.mk (blk_below BR.out hb); replace HP := Aside0.mk (blk_below HP.out hb); replace HB := Aside0.mk (below_step HB.out hb); replace HB3 := Aside0.mk (below_step HB3.out hb); clear hb; clear cc9 cc10; have cc9 := (blk_cell HP.out 9).trans (show _ = some (.string src) from rfl); have cc10 := (blk_cell HP.out 10).trans (show _ = some (.string dst) from rfl)))
    go_wp2_with (first
     | ((with_reducible refine gate_store (t := 28) (p := 2) rfl ?_); refine store_event (t := 28) (p := 2) (v := .tmp 75) (w1 := (World.setRow w9 gr zeroPL.c)) ?hg_3 ?ho_3 ?hn_3 ?hr_3 ?_; (case ho_3 => rfl); (case hg_3 => rfl); (case hn_3 => rfl); (case hr_3 => exact store_ev (tp := 2) (tv := 75) (p := zeroPL) (q := zeroPL) rfl rfl rfl BR.out); intro wz9 hw; replace BR := Aside0.mk (show wz9.heap[gr]? = some (.cells zeroPL.c 28 (0, 0)) by {rw [hw]; exact setRow_heap _ gr _ _ 28 (0, 0) BR.out}); replace HB := Aside0.mk (show Below w.heap.size w wz9 by {rw [hw]; exact below_setRow HB.out (Nat.le_of_eq HGR.out.symm) _}); clear hw))
    refine bodyPost_ret (results_ct rfl _ _ gr 28 zeroPL.c (0, 0) _ rfl BR.out Tryz.underlying28 rfl (by kernel_rfl)) rfl ?_
    exact ⟨rfl, HB.out⟩
   | true =>
    rw [if_pos rfl] at h
    obtain ⟨m2, hm2, h⟩ := Option.bind_eq_some_iff.mp h
    have HM2 := Aside0.mk (show salvorref11_MayName.f k dst = some m2 from hm2)
    clear hm2
    cases m2 with
    | false =>
     rw [if_neg (by simp)] at h
     obtain ⟨rfl, rfl⟩ : zeroPL = r ∧ 2 = rc := by simpa [badR] using h
     clear h
     go_upto_region 8 with (first
      | (go_at_call 21; (with_reducible refine (salvorref11_MayName.calls k src true _ HM1.out).mono ?_); rintro e w9 ⟨rfl, hb⟩; replace hb := d0b hb; replace BR := Aside0.mk (blk_below BR.out hb); replace HP := Aside0.mk (blk_below HP.out hb); replace HB := Aside0.mk (below_step HB.out hb); replace HB3 := Aside0.mk (below_step HB3.out hb); clear hb; clear cc9 cc10; have cc9 := (blk_cell HP.out 9).trans (show _ = some (.string src) from rfl); have cc10 := (blk_cell HP.out 10).trans (show _ = some (.string dst) from rfl))
      | (go_at_call 21; (with_reducible refine (salvorref11_MayName.calls k dst false _ HM2.out).mono ?_); rintro e w10 ⟨rfl, hb⟩; replace hb := d0b hb; replace BR := Aside0.mk (blk_below BR.out hb); replace HP := Aside0.mk (blk_below HP.out hb); replace HB := Aside0.mk (below_step HB.out hb); replace HB3 := Aside0.mk (below_step HB3.out hb); clear hb; clear cc9 cc10; have cc9 := (blk_cell HP.out 9).trans (show _ = some (.string src) from rfl); have cc10 := (blk_cell HP.out 10).trans (show _ = some (.string dst) from rfl)))
     go_wp2_with (first
      | ((with_reducible refine gate_store (t := 28) (p := 2) rfl ?_); refine store_event (t := 28) (p := 2) (v := .tmp 75) (w1 := (World.setRow w10 gr zeroPL.c)) ?hg_4 ?ho_4 ?hn_4 ?hr_4 ?_; (case ho_4 => rfl); (case hg_4 => rfl); (case hn_4 => rfl); (case hr_4 => exact store_ev (tp := 2) (tv := 75) (p := zeroPL) (q := zeroPL) rfl rfl rfl BR.out); intro wz9 hw; replace BR := Aside0.mk (show wz9.heap[gr]? = some (.cells zeroPL.c 28 (0, 0)) by {rw [hw]; exact setRow_heap _ gr _ _ 28 (0, 0) BR.out}); replace HB := Aside0.mk (show Below w.heap.size w wz9 by {rw [hw]; exact below_setRow HB.out (Nat.le_of_eq HGR.out.symm) _}); clear hw))
     refine bodyPost_ret (results_ct rfl _ _ gr 28 zeroPL.c (0, 0) _ rfl BR.out Tryz.underlying28 rfl (by kernel_rfl)) rfl ?_
     exact ⟨rfl, HB.out⟩
    | true =>
     rw [if_pos rfl] at h
     by_cases hsd : src.toList = dst.toList
     ·rw [if_pos hsd] at h
      obtain ⟨rfl, rfl⟩ : zeroPL = r ∧ 2 = rc := by simpa [badR] using h
      clear h
      have psd := eq_true hsd
      have psb : (src.toList == dst.toList) = true := beq_iff_eq.mpr hsd
      go_upto_region 8 with (first
       | (go_at_call 21; (with_reducible refine (salvorref11_MayName.calls k src true _ HM1.out).mono ?_); rintro e w9 ⟨rfl, hb⟩; replace hb := d0b hb; replace BR := Aside0.mk (blk_below BR.out hb); replace HP := Aside0.mk (blk_below HP.out hb); replace HB := Aside0.mk (below_step HB.out hb); replace HB3 := Aside0.mk (below_step HB3.out hb); clear hb; clear cc9 cc10; have cc9 := (blk_cell HP.out 9).trans (show _ = some (.string src) from rfl); have cc10 := (blk_cell HP.out 10).trans (show _ = some (.string dst) from rfl))
       | (go_at_call 21; (with_reducible refine (salvorref11_MayName.calls k dst true _ HM2.out).mono ?_); rintro e w10 ⟨rfl, hb⟩; replace hb := d0b hb; replace BR := Aside0.mk (blk_below BR.out hb); replace HP := Aside0.mk (blk_below HP.out hb); replace HB := Aside0.mk (below_step HB.out hb); replace HB3 := Aside0.mk (below_step HB3.out hb); clear hb; clear cc9 cc10; have cc9 := (blk_cell HP.out 9).trans (show _ = some (.string src) from rfl); have cc10 := (blk_cell HP.out 10).trans (show _ = some (.string dst) from rfl)))
      go_wp2_with (first
       | ((with_reducible refine gate_store (t := 28) (p := 2) rfl ?_); refine store_event (t := 28) (p := 2) (v := .tmp 75) (w1 := (World.setRow w10 gr zeroPL.c)) ?hg_5 ?ho_5 ?hn_5 ?hr_5 ?_; (case ho_5 => rfl); (case hg_5 => rfl); (case hn_5 => rfl); (case hr_5 => exact store_ev (tp := 2) (tv := 75) (p := zeroPL) (q := zeroPL) rfl rfl rfl BR.out); intro wz9 hw; replace BR := Aside0.mk (show wz9.heap[gr]? = some (.cells zeroPL.c 28 (0, 0)) by {rw [hw]; exact setRow_heap _ gr _ _ 28 (0, 0) BR.out}); replace HB := Aside0.mk (show Below w.heap.size w wz9 by {rw [hw]; exact below_setRow HB.out (Nat.le_of_eq HGR.out.symm) _}); clear hw))
      refine bodyPost_ret (results_ct rfl _ _ gr 28 zeroPL.c (0, 0) _ rfl BR.out Tryz.underlying28 rfl (by kernel_rfl)) rfl ?_
      exact ⟨rfl, HB.out⟩
     ·rw [if_neg hsd] at h
      have psd := eq_false hsd
      have psb : (src.toList == dst.toList) = false := beq_eq_false_iff_ne.mpr hsd
      obtain ⟨⟨ws, pw⟩, hws, h⟩ := Option.bind_eq_some_iff.mp h
      have HWS := Aside0.mk hws
      clear hws
      cases ws with
      | false =>
       rw [if_neg (by simp)] at h
       obtain ⟨rfl, rfl⟩ : zeroPL = r ∧ 2 = rc := by simpa [badR] using h
       clear h
       go_upto_region 8 with (first
        | (go_at_call 21; (with_reducible refine (salvorref11_MayName.calls k src true _ HM1.out).mono ?_); rintro e w9 ⟨rfl, hb⟩; replace hb := d0b hb; replace BR := Aside0.mk (blk_below BR.out hb); replace HP := Aside0.mk (blk_below HP.out hb); replace HB := Aside0.mk (below_step HB.out hb); replace HB3 := Aside0.mk (below_step HB3.out hb); clear hb; clear cc9 cc10; have cc9 := (blk_cell HP.out 9).trans (show _ = some (.string src) from rfl); have cc10 := (blk_cell HP.out 10).trans (show _ = some (.string dst) from rfl))
        | (go_at_call 21; (with_reducible refine (salvorref11_MayName.calls k dst true _ HM2.out).mono ?_); rintro e w10 ⟨rfl, hb⟩; replace hb := d0b hb; replace BR := Aside0.mk (blk_below BR.out hb); replace HP := Aside0.mk (blk_below HP.out hb); replace HB := Aside0.mk (below_step HB.out hb); replace HB3 := Aside0.mk (below_step HB3.out hb); clear hb; clear cc9 cc10; have cc9 := (blk_cell HP.out 9).trans (show _ = some (.string src) from rfl); have cc10 := (blk_cell HP.out 10).trans (show _ = some (.string dst) from rfl))
        | (go_at_call 22; (with_reducible refine (wordsP_walk k gp ({ zeroPL with src := src, dst := dst } : PL) A c o false pw w3 _ HP.out G3.out HB3.out HK.out HKc.out HWS.out).mono ?_); rintro e w11 ⟨rfl, hp, hb3, hkb⟩; replace BR := Aside0.mk (hkb.blk BR.out N2.out (by simp)); replace HP := Aside0.mk hp; replace HB := Aside0.mk (below_step HB0.out hb3); replace HB3 := Aside0.mk hb3; clear hp hb3 hkb cc9 cc10))
       go_wp2_with (first
        | ((with_reducible refine gate_store (t := 28) (p := 2) rfl ?_); refine store_event (t := 28) (p := 2) (v := .tmp 75) (w1 := (World.setRow w11 gr zeroPL.c)) ?hg_6 ?ho_6 ?hn_6 ?hr_6 ?_; (case ho_6 => rfl); (case hg_6 => rfl); (case hn_6 => rfl); (case hr_6 => exact store_ev (tp := 2) (tv := 75) (p := zeroPL) (q := zeroPL) rfl rfl rfl BR.out); intro wz9 hw; replace BR := Aside0.mk (show wz9.heap[gr]? = some (.cells zeroPL.c 28 (0, 0)) by {rw [hw]; exact setRow_heap _ gr _ _ 28 (0, 0) BR.out}); replace HB := Aside0.mk (show Below w.heap.size w wz9 by {rw [hw]; exact below_setRow HB.out (Nat.le_of_eq HGR.out.symm) _}); clear hw))
       refine bodyPost_ret (results_ct rfl _ _ gr 28 zeroPL.c (0, 0) _ rfl BR.out Tryz.underlying28 rfl (by kernel_rfl)) rfl ?_
       exact ⟨rfl, HB.out⟩
      | true =>
       rw [if_pos rfl] at h
       unfold rnumF at h
       obtain ⟨⟨v0, b0⟩, hn0, h⟩ := Option.bind_eq_some_iff.mp h
       have E0 := Aside0.mk hn0
       obtain ⟨⟨v1, b1⟩, hn1, h⟩ := Option.bind_eq_some_iff.mp h
       have E1 := Aside0.mk hn1
       obtain ⟨⟨v2, b2⟩, hn2, h⟩ := Option.bind_eq_some_iff.mp h
       have E2 := Aside0.mk hn2
       obtain ⟨⟨v3, b3⟩, hn3, h⟩ := Option.bind_eq_some_iff.mp h
       have E3 := Aside0.mk hn3
       obtain ⟨⟨v4, b4⟩, hn4, h⟩ := Option.bind_eq_some_iff.mp h
       have E4 := Aside0.mk hn4
       obtain ⟨⟨v5, b5⟩, hn5, h⟩ := Option.bind_eq_some_iff.mp h
       have E5 := Aside0.mk hn5
       obtain ⟨⟨v6, b6⟩, hn6, h⟩ := Option.bind_eq_some_iff.mp h
       have E6 := Aside0.mk hn6
       clear hn0 hn1 hn2 hn3 hn4 hn5 hn6
       have HH := Aside0.mk h
       clear h
       go_upto_region 9 with (first
        | (go_at_call 21; (with_reducible refine (salvorref11_MayName.calls k src true _ HM1.out).mono ?_); rintro e w9 ⟨rfl, hb⟩; replace hb := d0b hb; replace BR := Aside0.mk (blk_below BR.out hb); replace HP := Aside0.mk (blk_below HP.out hb); replace HB := Aside0.mk (below_step HB.out hb); replace HB3 := Aside0.mk (below_step HB3.out hb); clear hb; clear cc9 cc10; have cc9 := (blk_cell HP.out 9).trans (show _ = some (.string src) from rfl); have cc10 := (blk_cell HP.out 10).trans (show _ = some (.string dst) from rfl))
        | (go_at_call 21; (with_reducible refine (salvorref11_MayName.calls k dst true _ HM2.out).mono ?_); rintro e w10 ⟨rfl, hb⟩; replace hb := d0b hb; replace BR := Aside0.mk (blk_below BR.out hb); replace HP := Aside0.mk (blk_below HP.out hb); replace HB := Aside0.mk (below_step HB.out hb); replace HB3 := Aside0.mk (below_step HB3.out hb); clear hb; clear cc9 cc10; have cc9 := (blk_cell HP.out 9).trans (show _ = some (.string src) from rfl); have cc10 := (blk_cell HP.out 10).trans (show _ = some (.string dst) from rfl))
        | (go_at_call 22; (with_reducible refine (wordsP_walk k gp ({ zeroPL with src := src, dst := dst } : PL) A c o true pw w3 _ HP.out G3.out HB3.out HK.out HKc.out HWS.out).mono ?_); rintro e w11 ⟨rfl, hp, hb3, hkb⟩; replace BR := Aside0.mk (hkb.blk BR.out N2.out (by simp)); replace HP := Aside0.mk hp; replace HB := Aside0.mk (below_step HB0.out hb3); replace HB3 := Aside0.mk hb3; clear hp hb3 hkb cc9 cc10))
       clear HWS HM1 HM2 psd psb
       go_upto_region 16 with (first
        | (go_at_call 23; (with_reducible refine (salvorref22_num.calls k A c o ⟨#[98, 115]⟩ 1 4096 0 v0 b0 _ (Kd.C_below HK.out HB3.out) HKc.out E0.out).mono ?_); rintro e w12 ⟨rfl, hb⟩; replace BR := Aside0.mk (blk_below BR.out hb); replace HP := Aside0.mk (blk_below HP.out hb); replace HB := Aside0.mk (below_step HB.out hb); replace HB3 := Aside0.mk (below_step HB3.out hb); clear hb)
        | (go_at_call 23; (with_reducible refine (salvorref22_num.calls k A c o ⟨#[105, 98, 115]⟩ 1 4096 512 v1 b1 _ (Kd.C_below HK.out HB3.out) HKc.out E1.out).mono ?_); rintro e w13 ⟨rfl, hb⟩; replace BR := Aside0.mk (blk_below BR.out hb); replace HP := Aside0.mk (blk_below HP.out hb); replace HB := Aside0.mk (below_step HB.out hb); replace HB3 := Aside0.mk (below_step HB3.out hb); clear hb)
        | (go_at_call 23; (with_reducible refine (salvorref22_num.calls k A c o ⟨#[111, 98, 115]⟩ 1 4096 512 v2 b2 _ (Kd.C_below HK.out HB3.out) HKc.out E2.out).mono ?_); rintro e w14 ⟨rfl, hb⟩; replace BR := Aside0.mk (blk_below BR.out hb); replace HP := Aside0.mk (blk_below HP.out hb); replace HB := Aside0.mk (below_step HB.out hb); replace HB3 := Aside0.mk (below_step HB3.out hb); clear hb)
        | (go_at_call 23; (with_reducible refine (salvorref22_num.calls k A c o ⟨#[99, 98, 115]⟩ 1 4096 0 v3 b3 _ (Kd.C_below HK.out HB3.out) HKc.out E3.out).mono ?_); rintro e w15 ⟨rfl, hb⟩; replace BR := Aside0.mk (blk_below BR.out hb); replace HP := Aside0.mk (blk_below HP.out hb); replace HB := Aside0.mk (below_step HB.out hb); replace HB3 := Aside0.mk (below_step HB3.out hb); clear hb)
        | (go_at_call 23; (with_reducible refine (salvorref22_num.calls k A c o ⟨#[115, 107, 105, 112]⟩ 0 4611686018427387904 0 v4 b4 _ (Kd.C_below HK.out HB3.out) HKc.out E4.out).mono ?_); rintro e w16 ⟨rfl, hb⟩; replace BR := Aside0.mk (blk_below BR.out hb); replace HP := Aside0.mk (blk_below HP.out hb); replace HB := Aside0.mk (below_step HB.out hb); replace HB3 := Aside0.mk (below_step HB3.out hb); clear hb)
        | (go_at_call 23; (with_reducible refine (salvorref22_num.calls k A c o ⟨#[115, 101, 101, 107]⟩ 0 4611686018427387904 0 v5 b5 _ (Kd.C_below HK.out HB3.out) HKc.out E5.out).mono ?_); rintro e w17 ⟨rfl, hb⟩; replace BR := Aside0.mk (blk_below BR.out hb); replace HP := Aside0.mk (blk_below HP.out hb); replace HB := Aside0.mk (below_step HB.out hb); replace HB3 := Aside0.mk (below_step HB3.out hb); clear hb)
        | (go_at_call 23; (with_reducible refine (salvorref22_num.calls k A c o ⟨#[99, 111, 117, 110, 116]⟩ 0 4611686018427387904 0 v6 b6 _ (Kd.C_below HK.out HB3.out) HKc.out E6.out).mono ?_); rintro e w18 ⟨rfl, hb⟩; replace BR := Aside0.mk (blk_below BR.out hb); replace HP := Aside0.mk (blk_below HP.out hb); replace HB := Aside0.mk (below_step HB.out hb); replace HB3 := Aside0.mk (below_step HB3.out hb); clear hb))
       have h := HH.out
       clear HH E0 E1 E2 E3 E4 E5 E6
       cases b0 with
       | false =>
        rw [if_neg (by simp)] at h
        obtain ⟨rfl, rfl⟩ : zeroPL = r ∧ 2 = rc := by simpa [badR] using h
        clear h
        go_wp2_with (first
         | ((with_reducible refine gate_store (t := 28) (p := 2) rfl ?_); refine store_event (t := 28) (p := 2) (v := .tmp 137) (w1 := (World.setRow w18 gr zeroPL.c)) ?hg_7 ?ho_7 ?hn_7 ?hr_7 ?_; (case ho_7 => rfl); (case hg_7 => rfl); (case hn_7 => rfl); (case hr_7 => exact store_ev (tp := 2) (tv := 137) (p := zeroPL) (q := zeroPL) rfl rfl rfl BR.out); intro wz9 hw; replace BR := Aside0.mk (show wz9.heap[gr]? = some (.cells zeroPL.c 28 (0, 0)) by {rw [hw]; exact setRow_heap _ gr _ _ 28 (0, 0) BR.out}); replace HB := Aside0.mk (show Below w.heap.size w wz9 by {rw [hw]; exact below_setRow HB.out (Nat.le_of_eq HGR.out.symm) _}); clear hw))
        refine bodyPost_ret (results_ct rfl _ _ gr 28 zeroPL.c (0, 0) _ rfl BR.out Tryz.underlying28 rfl (by kernel_rfl)) rfl ?_
        exact ⟨rfl, HB.out⟩
       | true =>
        rw [if_pos rfl] at h
        cases b1 with
        | false =>
         rw [if_neg (by simp)] at h
         obtain ⟨rfl, rfl⟩ : zeroPL = r ∧ 2 = rc := by simpa [badR] using h
         clear h
         go_wp2_with (first
          | ((with_reducible refine gate_store (t := 28) (p := 2) rfl ?_); refine store_event (t := 28) (p := 2) (v := .tmp 137) (w1 := (World.setRow w18 gr zeroPL.c)) ?hg_8 ?ho_8 ?hn_8 ?hr_8 ?_; (case ho_8 => rfl); (case hg_8 => rfl); (case hn_8 => rfl); (case hr_8 => exact store_ev (tp := 2) (tv := 137) (p := zeroPL) (q := zeroPL) rfl rfl rfl BR.out); intro wz9 hw; replace BR := Aside0.mk (show wz9.heap[gr]? = some (.cells zeroPL.c 28 (0, 0)) by {rw [hw]; exact setRow_heap _ gr _ _ 28 (0, 0) BR.out}); replace HB := Aside0.mk (show Below w.heap.size w wz9 by {rw [hw]; exact below_setRow HB.out (Nat.le_of_eq HGR.out.symm) _}); clear hw))
         refine bodyPost_ret (results_ct rfl _ _ gr 28 zeroPL.c (0, 0) _ rfl BR.out Tryz.underlying28 rfl (by kernel_rfl)) rfl ?_
         exact ⟨rfl, HB.out⟩
        | true =>
         rw [if_pos rfl] at h
         cases b2 with
         | false =>
          rw [if_neg (by simp)] at h
          obtain ⟨rfl, rfl⟩ : zeroPL = r ∧ 2 = rc := by simpa [badR] using h
          clear h
          go_wp2_with (first
           | ((with_reducible refine gate_store (t := 28) (p := 2) rfl ?_); refine store_event (t := 28) (p := 2) (v := .tmp 137) (w1 := (World.setRow w18 gr zeroPL.c)) ?hg_9 ?ho_9 ?hn_9 ?hr_9 ?_; (case ho_9 => rfl); (case hg_9 => rfl); (case hn_9 => rfl); (case hr_9 => exact store_ev (tp := 2) (tv := 137) (p := zeroPL) (q := zeroPL) rfl rfl rfl BR.out); intro wz9 hw; replace BR := Aside0.mk (show wz9.heap[gr]? = some (.cells zeroPL.c 28 (0, 0)) by {rw [hw]; exact setRow_heap _ gr _ _ 28 (0, 0) BR.out}); replace HB := Aside0.mk (show Below w.heap.size w wz9 by {rw [hw]; exact below_setRow HB.out (Nat.le_of_eq HGR.out.symm) _}); clear hw))
          refine bodyPost_ret (results_ct rfl _ _ gr 28 zeroPL.c (0, 0) _ rfl BR.out Tryz.underlying28 rfl (by kernel_rfl)) rfl ?_
          exact ⟨rfl, HB.out⟩
         | true =>
          rw [if_pos rfl] at h
          cases b3 with
          | false =>
           rw [if_neg (by simp)] at h
           obtain ⟨rfl, rfl⟩ : zeroPL = r ∧ 2 = rc := by simpa [badR] using h
           clear h
           go_wp2_with (first
            | ((with_reducible refine gate_store (t := 28) (p := 2) rfl ?_); refine store_event (t := 28) (p := 2) (v := .tmp 137) (w1 := (World.setRow w18 gr zeroPL.c)) ?hg_10 ?ho_10 ?hn_10 ?hr_10 ?_; (case ho_10 => rfl); (case hg_10 => rfl); (case hn_10 => rfl); (case hr_10 => exact store_ev (tp := 2) (tv := 137) (p := zeroPL) (q := zeroPL) rfl rfl rfl BR.out); intro wz9 hw; replace BR := Aside0.mk (show wz9.heap[gr]? = some (.cells zeroPL.c 28 (0, 0)) by {rw [hw]; exact setRow_heap _ gr _ _ 28 (0, 0) BR.out}); replace HB := Aside0.mk (show Below w.heap.size w wz9 by {rw [hw]; exact below_setRow HB.out (Nat.le_of_eq HGR.out.symm) _}); clear hw))
           refine bodyPost_ret (results_ct rfl _ _ gr 28 zeroPL.c (0, 0) _ rfl BR.out Tryz.underlying28 rfl (by kernel_rfl)) rfl ?_
           exact ⟨rfl, HB.out⟩
          | true =>
           rw [if_pos rfl] at h
           cases b4 with
           | false =>
            rw [if_neg (by simp)] at h
            obtain ⟨rfl, rfl⟩ : zeroPL = r ∧ 2 = rc := by simpa [badR] using h
            clear h
            go_wp2_with (first
             | ((with_reducible refine gate_store (t := 28) (p := 2) rfl ?_); refine store_event (t := 28) (p := 2) (v := .tmp 137) (w1 := (World.setRow w18 gr zeroPL.c)) ?hg_11 ?ho_11 ?hn_11 ?hr_11 ?_; (case ho_11 => rfl); (case hg_11 => rfl); (case hn_11 => rfl); (case hr_11 => exact store_ev (tp := 2) (tv := 137) (p := zeroPL) (q := zeroPL) rfl rfl rfl BR.out); intro wz9 hw; replace BR := Aside0.mk (show wz9.heap[gr]? = some (.cells zeroPL.c 28 (0, 0)) by {rw [hw]; exact setRow_heap _ gr _ _ 28 (0, 0) BR.out}); replace HB := Aside0.mk (show Below w.heap.size w wz9 by {rw [hw]; exact below_setRow HB.out (Nat.le_of_eq HGR.out.symm) _}); clear hw))
            refine bodyPost_ret (results_ct rfl _ _ gr 28 zeroPL.c (0, 0) _ rfl BR.out Tryz.underlying28 rfl (by kernel_rfl)) rfl ?_
            exact ⟨rfl, HB.out⟩
           | true =>
            rw [if_pos rfl] at h
            cases b5 with
            | false =>
             rw [if_neg (by simp)] at h
             obtain ⟨rfl, rfl⟩ : zeroPL = r ∧ 2 = rc := by simpa [badR] using h
             clear h
             go_wp2_with (first
              | ((with_reducible refine gate_store (t := 28) (p := 2) rfl ?_); refine store_event (t := 28) (p := 2) (v := .tmp 137) (w1 := (World.setRow w18 gr zeroPL.c)) ?hg_12 ?ho_12 ?hn_12 ?hr_12 ?_; (case ho_12 => rfl); (case hg_12 => rfl); (case hn_12 => rfl); (case hr_12 => exact store_ev (tp := 2) (tv := 137) (p := zeroPL) (q := zeroPL) rfl rfl rfl BR.out); intro wz9 hw; replace BR := Aside0.mk (show wz9.heap[gr]? = some (.cells zeroPL.c 28 (0, 0)) by {rw [hw]; exact setRow_heap _ gr _ _ 28 (0, 0) BR.out}); replace HB := Aside0.mk (show Below w.heap.size w wz9 by {rw [hw]; exact below_setRow HB.out (Nat.le_of_eq HGR.out.symm) _}); clear hw))
             refine bodyPost_ret (results_ct rfl _ _ gr 28 zeroPL.c (0, 0) _ rfl BR.out Tryz.underlying28 rfl (by kernel_rfl)) rfl ?_
             exact ⟨rfl, HB.out⟩
            | true =>
             rw [if_pos rfl] at h
             cases b6 with
             | false =>
              rw [if_neg (by simp)] at h
              obtain ⟨rfl, rfl⟩ : zeroPL = r ∧ 2 = rc := by simpa [badR] using h
              clear h
              go_wp2_with (first
               | ((with_reducible refine gate_store (t := 28) (p := 2) rfl ?_); refine store_event (t := 28) (p := 2) (v := .tmp 137) (w1 := (World.setRow w18 gr zeroPL.c)) ?hg_13 ?ho_13 ?hn_13 ?hr_13 ?_; (case ho_13 => rfl); (case hg_13 => rfl); (case hn_13 => rfl); (case hr_13 => exact store_ev (tp := 2) (tv := 137) (p := zeroPL) (q := zeroPL) rfl rfl rfl BR.out); intro wz9 hw; replace BR := Aside0.mk (show wz9.heap[gr]? = some (.cells zeroPL.c 28 (0, 0)) by {rw [hw]; exact setRow_heap _ gr _ _ 28 (0, 0) BR.out}); replace HB := Aside0.mk (show Below w.heap.size w wz9 by {rw [hw]; exact below_setRow HB.out (Nat.le_of_eq HGR.out.symm) _}); clear hw))
              refine bodyPost_ret (results_ct rfl _ _ gr 28 zeroPL.c (0, 0) _ rfl BR.out Tryz.underlying28 rfl (by kernel_rfl)) rfl ?_
              exact ⟨rfl, HB.out⟩
             | true =>
              rw [if_pos rfl] at h
              as_aux_lemma =>
               unfold rtailF at h
               obtain ⟨⟨cv, hasc⟩, hfc, h⟩ := Option.bind_eq_some_iff.mp h
               obtain ⟨⟨n1, mo1⟩, hmu1, h⟩ := Option.bind_eq_some_iff.mp h
               obtain ⟨⟨n2, mo2⟩, hmu2, h⟩ := Option.bind_eq_some_iff.mp h
               obtain ⟨mc, hmc, h⟩ := Option.bind_eq_some_iff.mp h
               simp only at hmu1 hmu2 hmc h
               obtain ⟨vi, hvi⟩ : ∃ v, v = (if 0 < v0 then v0 else v1) := ⟨_, rfl⟩
               obtain ⟨vo, hvo⟩ : ∃ v, v = (if 0 < v0 then v0 else v2) := ⟨_, rfl⟩
               rw [← hvi] at hmu1 h
               rw [← hvo] at hmu2 h
               have HVI := Aside0.mk hvi
               have HVO := Aside0.mk hvo
               have HFC := Aside0.mk hfc
               have HX1 := Aside0.mk hmu1
               have HX2 := Aside0.mk hmu2
               have HXC := Aside0.mk hmc
               have HH := Aside0.mk h
               clear hvi hvo hfc hmu1 hmu2 hmc h
               go_upto_if 139 with (fail)
               go_cut [9, 11] (fun s9 s11 wx => s9 = .int .i64 vi ∧ s11 = .int .i64 vo ∧ wx = w18)
               case first =>
                by_cases hbs : 0 < v0
                ·have pb := eq_true hbs
                 go_wp2
                 go_meet
                 case rel => exact ⟨by rw [HVI.out, if_pos hbs], by rw [HVO.out, if_pos hbs], rfl⟩
                ·have pb := eq_false hbs
                 go_wp2
                 go_meet
                 case rel => exact ⟨by rw [HVI.out, if_neg (by omega)], by rw [HVO.out, if_neg (by omega)], rfl⟩
               case rest =>
                obtain ⟨rfl, rfl, rfl⟩ := hcut
                as_aux_lemma =>
                 have cc11 := (blk_cell HP.out 11).trans (show _ = some (.int .i64 pw.ibs) from rfl)
                 have ff11 := blk_frozen HP.out 11
                 have cc12 := (blk_cell HP.out 12).trans (show _ = some (.int .i64 pw.obs) from rfl)
                 have ff12 := blk_frozen HP.out 12
                 have cc8 := (blk_cell HP.out 8).trans (show _ = some (.int .i64 pw.cbs) from rfl)
                 have ff8 := blk_frozen HP.out 8
                 have cc13 := (blk_cell HP.out 13).trans (show _ = some (.int .i64 pw.skip) from rfl)
                 have ff13 := blk_frozen HP.out 13
                 have cc14 := (blk_cell HP.out 14).trans (show _ = some (.int .i64 pw.seek) from rfl)
                 have ff14 := blk_frozen HP.out 14
                 have cc15 := (blk_cell HP.out 15).trans (show _ = some (.int .i64 pw.count) from rfl)
                 have ff15 := blk_frozen HP.out 15
                 go_upto_region 21 with (fail)
                 generalize hW : World.setCell _ _ _ = w19
                 replace HB3 := Aside0.mk (show Below w3.heap.size w3 w19 by {rw [← hW]; exact below_set (below_set (below_set (below_set (below_set (below_set HB3.out G3.out) G3.out) G3.out) G3.out) G3.out) G3.out})
                 replace HB := Aside0.mk (below_step HB0.out HB3.out)
                 replace BR := Aside0.mk (show w19.heap[gr]? = some (.cells zeroPL.c 28 (0, 0)) by {rw [← hW]; exact blk_far (blk_far (blk_far (blk_far (blk_far (blk_far BR.out N2.out _) N2.out _) N2.out _) N2.out _) N2.out _) N2.out _})
                 replace HP := Aside0.mk (show w19.heap[gp]? = some (.cells ({ pw with ibs := vi, obs := vo, cbs := v3, skip := v4, seek := v5, count := v6 } : PL).c 28 (0, 0)) by {rw [← hW]; exact blk_set (blk_set (blk_set (blk_set (blk_set (blk_set HP.out 11 _) 12 _) 8 _) 13 _) 14 _) 15 _})
                 clear hW cc11 ff11 cc12 ff12 cc8 ff8 cc13 ff13 cc14 ff14 cc15 ff15
                 obtain ⟨pn, hpn⟩ : ∃ p : PL, p = { pw with ibs := vi, obs := vo, cbs := v3, skip := v4, seek := v5, count := v6 } := ⟨_, rfl⟩
                 rw [← hpn] at HP
                 have HPN := Aside0.mk hpn
                 clear hpn
                 replace HX1 := Aside0.mk (show salvorref1_Mul.f k [pn.skip, pn.ibs] = some (n1, mo1) from by rw [HPN.out]; exact HX1.out)
                 replace HX2 := Aside0.mk (show salvorref1_Mul.f k [pn.seek, pn.obs] = some (n2, mo2) from by rw [HPN.out]; exact HX2.out)
                 replace HXC := Aside0.mk (show salvorref6_MayConvs.f k pn.swab pn.block pn.unblock pn.lcase pn.ucase pn.ascii pn.ebcdic pn.ibm pn.cbs = some mc from by rw [HPN.out]; exact HXC.out)
                 replace HH := Aside0.mk (show (if mc = true then if (pn.excl && pn.nocreat) = true then badR else if mo1 = true then if mo2 = true then if 1099511627776 < n2 then badR else some ({ pn with all := !hasc, direct := directF pn v0 }, 0) else badR else badR else badR) = some (r, rc) from by rw [HPN.out]; exact HH.out)
                 clear HPN HVI HVO
                 go_upto_region 22 with (first | (go_at_call 20; (with_reducible refine (salvorref6_Find.calls k A c o ⟨#[99, 111, 117, 110, 116]⟩ cv hasc _ (Kd.C_below HK.out HB3.out) HKc.out HFC.out).mono ?_); rintro e w20 ⟨rfl, hb⟩; replace hb := d0b hb; replace BR := Aside0.mk (blk_below BR.out hb); replace HP := Aside0.mk (blk_below HP.out hb); replace HB := Aside0.mk (below_step HB.out hb); replace HB3 := Aside0.mk (below_step HB3.out hb); clear hb; have cc16 := (blk_cell HP.out 16).trans (show _ = some (.bool pn.all) from rfl); have ff16 := blk_frozen HP.out 16))
                 go_upto_region 23 with (fail)
                 generalize hW : World.setCell _ _ _ = w21
                 replace HB := Aside0.mk (show Below w.heap.size w w21 by {rw [← hW]; exact below_set HB.out G0.out})
                 replace HB3 := Aside0.mk (show Below w3.heap.size w3 w21 by {rw [← hW]; exact below_set HB3.out G3.out})
                 replace BR := Aside0.mk (show w21.heap[gr]? = some (.cells zeroPL.c 28 (0, 0)) by {rw [← hW]; exact blk_far BR.out N2.out _})
                 replace HP := Aside0.mk (show w21.heap[gp]? = some (.cells ({ pn with all := !hasc } : PL).c 28 (0, 0)) by {rw [← hW]; exact blk_set HP.out 16 _})
                 clear hW
                 clear cc16 ff16 HFC
                 obtain ⟨pm, hpm⟩ : ∃ p : PL, p = { pn with all := !hasc } := ⟨_, rfl⟩
                 rw [← hpm] at HP
                 have HPM := Aside0.mk hpm
                 clear hpm
                 replace HX1 := Aside0.mk (show salvorref1_Mul.f k [pm.skip, pm.ibs] = some (n1, mo1) from by rw [HPM.out]; exact HX1.out)
                 replace HX2 := Aside0.mk (show salvorref1_Mul.f k [pm.seek, pm.obs] = some (n2, mo2) from by rw [HPM.out]; exact HX2.out)
                 replace HXC := Aside0.mk (show salvorref6_MayConvs.f k pm.swab pm.block pm.unblock pm.lcase pm.ucase pm.ascii pm.ebcdic pm.ibm pm.cbs = some mc from by rw [HPM.out]; exact HXC.out)
                 replace HH := Aside0.mk (show (if mc = true then if (pm.excl && pm.nocreat) = true then badR else if mo1 = true then if mo2 = true then if 1099511627776 < n2 then badR else some ({ pm with direct := directF pm v0 }, 0) else badR else badR else badR) = some (r, rc) from by rw [HPM.out]; exact HH.out)
                 clear HPM
                 have cc0 := (blk_cell HP.out 0).trans (show _ = some (.bool pm.swab) from rfl)
                 have cc1 := (blk_cell HP.out 1).trans (show _ = some (.bool pm.block) from rfl)
                 have cc2 := (blk_cell HP.out 2).trans (show _ = some (.bool pm.unblock) from rfl)
                 have cc3 := (blk_cell HP.out 3).trans (show _ = some (.bool pm.lcase) from rfl)
                 have cc4 := (blk_cell HP.out 4).trans (show _ = some (.bool pm.ucase) from rfl)
                 have cc5 := (blk_cell HP.out 5).trans (show _ = some (.bool pm.ascii) from rfl)
                 have cc6 := (blk_cell HP.out 6).trans (show _ = some (.bool pm.ebcdic) from rfl)
                 have cc7 := (blk_cell HP.out 7).trans (show _ = some (.bool pm.ibm) from rfl)
                 have cc17 := (blk_cell HP.out 17).trans (show _ = some (.bool pm.direct) from rfl)
                 have ff17 := blk_frozen HP.out 17
                 obtain ⟨dr, hdr⟩ : ∃ d, d = directF pm v0 := ⟨_, rfl⟩
                 have HDR := Aside0.mk hdr
                 clear hdr
                 go_cut [] (fun wx => wx = w21.setCell ⟨gp, 17, none⟩ (.bool dr))
                 case first =>
                  as_aux_lemma =>
                   have hd := HDR.out
                   unfold directF at hd
                   obtain ⟨b0, hb0⟩ : ∃ b, b = pm.swab := ⟨_, rfl⟩
                   obtain ⟨b1, hb1⟩ : ∃ b, b = pm.block := ⟨_, rfl⟩
                   obtain ⟨b2, hb2⟩ : ∃ b, b = pm.unblock := ⟨_, rfl⟩
                   obtain ⟨b3, hb3⟩ : ∃ b, b = pm.lcase := ⟨_, rfl⟩
                   obtain ⟨b4, hb4⟩ : ∃ b, b = pm.ucase := ⟨_, rfl⟩
                   obtain ⟨b5, hb5⟩ : ∃ b, b = pm.ascii := ⟨_, rfl⟩
                   obtain ⟨b6, hb6⟩ : ∃ b, b = pm.ebcdic := ⟨_, rfl⟩
                   obtain ⟨b7, hb7⟩ : ∃ b, b = pm.ibm := ⟨_, rfl⟩
                   rw [← hb0] at cc0 hd
                   clear hb0
                   rw [← hb1] at cc1 hd
                   clear hb1
                   rw [← hb2] at cc2 hd
                   clear hb2
                   rw [← hb3] at cc3 hd
                   clear hb3
                   rw [← hb4] at cc4 hd
                   clear hb4
                   rw [← hb5] at cc5 hd
                   clear hb5
                   rw [← hb6] at cc6 hd
                   clear hb6
                   rw [← hb7] at cc7 hd
                   clear hb7
                   by_cases hbs : 0 < v0
                   ·have pb := eq_true hbs
                    rw [decide_eq_true hbs] at hd
                    cases b0 with
                    | true =>
                     replace hd : dr = false := by rw [hd]; simp
                     subst hd
                     go_wp2
                     go_meet
                     case rel => rfl
                    | false =>
                     cases b1 with
                     | true =>
                      replace hd : dr = false := by rw [hd]; simp
                      subst hd
                      go_wp2
                      go_meet
                      case rel => rfl
                     | false =>
                      cases b2 with
                      | true =>
                       replace hd : dr = false := by rw [hd]; simp
                       subst hd
                       go_wp2
                       go_meet
                       case rel => rfl
                      | false =>
                       cases b3 with
                       | true =>
                        replace hd : dr = false := by rw [hd]; simp
                        subst hd
                        go_wp2
                        go_meet
                        case rel => rfl
                       | false =>
                        cases b4 with
                        | true =>
                         replace hd : dr = false := by rw [hd]; simp
                         subst hd
                         go_wp2
                         go_meet
                         case rel => rfl
                        | false =>
                         cases b5 with
                         | true =>
                          replace hd : dr = false := by rw [hd]; simp
                          subst hd
                          go_wp2
                          go_meet
                          case rel => rfl
                         | false =>
                          cases b6 with
                          | true =>
                           replace hd : dr = false := by rw [hd]; simp
                           subst hd
                           go_wp2
                           go_meet
                           case rel => rfl
                          | false =>
                           cases b7 with
                           | true =>
                            replace hd : dr = false := by rw [hd]; simp
                            subst hd
                            go_wp2
                            go_meet
                            case rel => rfl
                           | false =>
                            replace hd : dr = true := hd
                            subst hd
                            go_wp2
                            go_meet
                            case rel => rfl
                   ·have pb := eq_false hbs
                    rw [decide_eq_false hbs] at hd
                    replace hd : dr = false := by rw [hd]; simp
                    subst hd
                    go_wp2
                    go_meet
                    case rel => rfl
                 case rest =>
                  as_aux_lemma =>
                   generalize hW : World.setCell _ _ _ = w22 at hcut
                   subst hcut
                   replace HB := Aside0.mk (show Below w.heap.size w wc by {rw [← hW]; exact below_set HB.out G0.out})
                   replace HB3 := Aside0.mk (show Below w3.heap.size w3 wc by {rw [← hW]; exact below_set HB3.out G3.out})
                   replace BR := Aside0.mk (show wc.heap[gr]? = some (.cells zeroPL.c 28 (0, 0)) by {rw [← hW]; exact blk_far BR.out N2.out _})
                   replace HP := Aside0.mk (show wc.heap[gp]? = some (.cells ({ pm with direct := dr } : PL).c 28 (0, 0)) by {rw [← hW]; exact blk_set HP.out 17 _})
                   clear hW ff17 cc17 cc0 cc1 cc2 cc3 cc4 cc5 cc6 cc7
                   obtain ⟨pd, hpd⟩ : ∃ p : PL, p = { pm with direct := dr } := ⟨_, rfl⟩
                   rw [← hpd] at HP
                   have HPM := Aside0.mk hpd
                   clear hpd
                   replace HX1 := Aside0.mk (show salvorref1_Mul.f k [pd.skip, pd.ibs] = some (n1, mo1) from by rw [HPM.out]; exact HX1.out)
                   replace HX2 := Aside0.mk (show salvorref1_Mul.f k [pd.seek, pd.obs] = some (n2, mo2) from by rw [HPM.out]; exact HX2.out)
                   replace HXC := Aside0.mk (show salvorref6_MayConvs.f k pd.swab pd.block pd.unblock pd.lcase pd.ucase pd.ascii pd.ebcdic pd.ibm pd.cbs = some mc from by rw [HPM.out]; exact HXC.out)
                   replace HH := Aside0.mk (show (if mc = true then if (pd.excl && pd.nocreat) = true then badR else if mo1 = true then if mo2 = true then if 1099511627776 < n2 then badR else some (pd, 0) else badR else badR else badR) = some (r, rc) from by rw [HPM.out, HDR.out]; exact HH.out)
                   clear HPM HDR
                   have cc11 := (blk_cell HP.out 11).trans (show _ = some (.int .i64 pd.ibs) from rfl)
                   have cc13 := (blk_cell HP.out 13).trans (show _ = some (.int .i64 pd.skip) from rfl)
                   go_upto_region 25 with (first
                    | ((with_reducible refine gate_dst (N := 219) rfl ?_); refine Kd.R_lit (Kd.int .i64) _ 3 ?hgl1 (N := 219) ?hdl1 (xs := ([pd.skip, pd.ibs] : List Int)) (inner := [.int .i64 pd.skip, .int .i64 pd.ibs]) (ok := fun _ => True) (okp := fun _ => True) ?hrl1 ?hpl1 (fun _ hk => hk) trivial (Below.refl _ _) (Nat.le_refl _) (by simp) ?_; (case hdl1 => rfl); (case hgl1 => rfl); (case hrl1 => first | (go_simp; done) | (go_simp; rfl)); (case hpl1 => exact (Reps.one (show Kd.M (Kd.int .i64) _ _ _ pd.skip [.int .i64 pd.skip] from rfl) (Reps.one (show Kd.M (Kd.int .i64) _ _ _ pd.ibs [.int .i64 pd.ibs] from rfl) (Reps.none _ _)))); intro vl1 wl1 hol1 hb hg_ hnew_; clear hg_ hnew_; replace BR := Aside0.mk (blk_below BR.out hb); replace HP := Aside0.mk (blk_below HP.out hb); replace HB := Aside0.mk (below_step HB.out hb); replace HB3 := Aside0.mk (below_step HB3.out hb); clear hb; obtain ⟨Al1, cl1, el1⟩ := Kd.R_slice hol1; subst el1; have HOL1 := Aside0.mk hol1; clear hol1)
                    | (go_at_call 24; have hq := salvorref1_Mul.calls k Al1 cl1 ([pd.skip, pd.ibs] : List Int) n1 mo1 _ (Kd.R_reads' HOL1.out).2.2 (Kd.R_reads' HOL1.out).2.1 HX1.out; refine hq.mono ?_; clear hq; rintro e w23 ⟨rfl, hb⟩; replace hb := d0b hb; replace BR := Aside0.mk (blk_below BR.out hb); replace HP := Aside0.mk (blk_below HP.out hb); replace HB := Aside0.mk (below_step HB.out hb); replace HB3 := Aside0.mk (below_step HB3.out hb); clear hb; clear HOL1; clear cc11 cc13; have cc12 := (blk_cell HP.out 12).trans (show _ = some (.int .i64 pd.obs) from rfl); have cc14 := (blk_cell HP.out 14).trans (show _ = some (.int .i64 pd.seek) from rfl)))
                   go_upto_region 26 with (first
                    | ((with_reducible refine gate_dst (N := 228) rfl ?_); refine Kd.R_lit (Kd.int .i64) _ 3 ?hgl2 (N := 228) ?hdl2 (xs := ([pd.seek, pd.obs] : List Int)) (inner := [.int .i64 pd.seek, .int .i64 pd.obs]) (ok := fun _ => True) (okp := fun _ => True) ?hrl2 ?hpl2 (fun _ hk => hk) trivial (Below.refl _ _) (Nat.le_refl _) (by simp) ?_; (case hdl2 => rfl); (case hgl2 => rfl); (case hrl2 => first | (go_simp; done) | (go_simp; rfl)); (case hpl2 => exact (Reps.one (show Kd.M (Kd.int .i64) _ _ _ pd.seek [.int .i64 pd.seek] from rfl) (Reps.one (show Kd.M (Kd.int .i64) _ _ _ pd.obs [.int .i64 pd.obs] from rfl) (Reps.none _ _)))); intro vl2 wl2 hol2 hb hg_ hnew_; clear hg_ hnew_; replace BR := Aside0.mk (blk_below BR.out hb); replace HP := Aside0.mk (blk_below HP.out hb); replace HB := Aside0.mk (below_step HB.out hb); replace HB3 := Aside0.mk (below_step HB3.out hb); clear hb; obtain ⟨Al2, cl2, el2⟩ := Kd.R_slice hol2; subst el2; have HOL2 := Aside0.mk hol2; clear hol2)
                    | (go_at_call 24; have hq := salvorref1_Mul.calls k Al2 cl2 ([pd.seek, pd.obs] : List Int) n2 mo2 _ (Kd.R_reads' HOL2.out).2.2 (Kd.R_reads' HOL2.out).2.1 HX2.out; refine hq.mono ?_; clear hq; rintro e w24 ⟨rfl, hb⟩; replace hb := d0b hb; replace BR := Aside0.mk (blk_below BR.out hb); replace HP := Aside0.mk (blk_below HP.out hb); replace HB := Aside0.mk (below_step HB.out hb); replace HB3 := Aside0.mk (below_step HB3.out hb); clear hb; clear HOL2; clear cc12 cc14))
                   have h := HH.out
                   clear HH HX1 HX2
                   as_aux_lemma =>
                    cases mc with
                    | false =>
                     rw [if_neg (by simp)] at h
                     obtain ⟨rfl, rfl⟩ : zeroPL = r ∧ 2 = rc := by simpa [badR] using h
                     clear h
                     go_upto_region 27 with (first
                      | ((with_reducible refine gate_dst (N := 233) rfl ?_); refine load_event (.agg #[.bool pd.swab, .bool pd.block, .bool pd.unblock, .bool pd.lcase, .bool pd.ucase, .bool pd.ascii, .bool pd.ebcdic, .bool pd.ibm, .int .i64 pd.cbs]) (by rfl) (load_ev23 (tp := 232) (p := pd) rfl rfl HP.out) ?_)
                      | (go_at_call 25; (with_reducible refine (salvorref6_MayConvs.calls k pd.swab pd.block pd.unblock pd.lcase pd.ucase pd.ascii pd.ebcdic pd.ibm pd.cbs false _ HXC.out).mono ?_); rintro e w25 ⟨rfl, hb⟩; replace BR := Aside0.mk (blk_below BR.out hb); replace HP := Aside0.mk (blk_below HP.out hb); replace HB := Aside0.mk (below_step HB.out hb); replace HB3 := Aside0.mk (below_step HB3.out hb); clear hb))
                     go_wp2_with (first
                      | ((with_reducible refine gate_store (t := 28) (p := 2) rfl ?_); refine store_event (t := 28) (p := 2) (v := .tmp 256) (w1 := (World.setRow w25 gr zeroPL.c)) ?hg_14 ?ho_14 ?hn_14 ?hr_14 ?_; (case ho_14 => rfl); (case hg_14 => rfl); (case hn_14 => rfl); (case hr_14 => exact store_ev (tp := 2) (tv := 256) (p := zeroPL) (q := zeroPL) rfl rfl rfl BR.out); intro wz9 hw; replace BR := Aside0.mk (show wz9.heap[gr]? = some (.cells zeroPL.c 28 (0, 0)) by {rw [hw]; exact setRow_heap _ gr _ _ 28 (0, 0) BR.out}); replace HB := Aside0.mk (show Below w.heap.size w wz9 by {rw [hw]; exact below_setRow HB.out (Nat.le_of_eq HGR.out.symm) _}); clear hw))
                     refine bodyPost_ret (results_ct rfl _ _ gr 28 zeroPL.c (0, 0) _ rfl BR.out Tryz.underlying28 rfl (by kernel_rfl)) rfl ?_
                     exact ⟨rfl, HB.out⟩
                    | true =>
                     rw [if_pos rfl] at h
                     obtain ⟨ex, hex⟩ : ∃ b, b = pd.excl := ⟨_, rfl⟩
                     obtain ⟨nc, hnc⟩ : ∃ b, b = pd.nocreat := ⟨_, rfl⟩
                     have HEX := Aside0.mk hex
                     have HNC := Aside0.mk hnc
                     rw [← hex, ← hnc] at h
                     clear hex hnc
                     cases ex with
                     | true =>
                      cases nc with
                      | true =>
                       rw [if_pos (show (true && true) = true from rfl)] at h
                       obtain ⟨rfl, rfl⟩ : zeroPL = r ∧ 2 = rc := by simpa [badR] using h
                       clear h
                       as_aux_lemma =>
                        go_upto_region 27 with (first
                         | ((with_reducible refine gate_dst (N := 233) rfl ?_); refine load_event (.agg #[.bool pd.swab, .bool pd.block, .bool pd.unblock, .bool pd.lcase, .bool pd.ucase, .bool pd.ascii, .bool pd.ebcdic, .bool pd.ibm, .int .i64 pd.cbs]) (by rfl) (load_ev23 (tp := 232) (p := pd) rfl rfl HP.out) ?_)
                         | (go_at_call 25; (with_reducible refine (salvorref6_MayConvs.calls k pd.swab pd.block pd.unblock pd.lcase pd.ucase pd.ascii pd.ebcdic pd.ibm pd.cbs true _ HXC.out).mono ?_); rintro e w25 ⟨rfl, hb⟩; replace BR := Aside0.mk (blk_below BR.out hb); replace HP := Aside0.mk (blk_below HP.out hb); replace HB := Aside0.mk (below_step HB.out hb); replace HB3 := Aside0.mk (below_step HB3.out hb); clear hb; have cc24 := (blk_cell HP.out 24).trans (show _ = some (.bool pd.excl) from rfl); have cc25 := (blk_cell HP.out 25).trans (show _ = some (.bool pd.nocreat) from rfl); rw [← HEX.out] at cc24; rw [← HNC.out] at cc25))
                        go_wp2_with (first
                         | ((with_reducible refine gate_store (t := 28) (p := 2) rfl ?_); refine store_event (t := 28) (p := 2) (v := .tmp 256) (w1 := (World.setRow w25 gr zeroPL.c)) ?hg_15 ?ho_15 ?hn_15 ?hr_15 ?_; (case ho_15 => rfl); (case hg_15 => rfl); (case hn_15 => rfl); (case hr_15 => exact store_ev (tp := 2) (tv := 256) (p := zeroPL) (q := zeroPL) rfl rfl rfl BR.out); intro wz9 hw; replace BR := Aside0.mk (show wz9.heap[gr]? = some (.cells zeroPL.c 28 (0, 0)) by {rw [hw]; exact setRow_heap _ gr _ _ 28 (0, 0) BR.out}); replace HB := Aside0.mk (show Below w.heap.size w wz9 by {rw [hw]; exact below_setRow HB.out (Nat.le_of_eq HGR.out.symm) _}); clear hw))
                        refine bodyPost_ret (results_ct rfl _ _ gr 28 zeroPL.c (0, 0) _ rfl BR.out Tryz.underlying28 rfl (by kernel_rfl)) rfl ?_
                        exact ⟨rfl, HB.out⟩
                      | false =>
                       rw [if_neg (by simp)] at h
                       cases mo1 with
                       | false =>
                        rw [if_neg (by simp)] at h
                        obtain ⟨rfl, rfl⟩ : zeroPL = r ∧ 2 = rc := by simpa [badR] using h
                        clear h
                        as_aux_lemma =>
                         go_upto_region 27 with (first
                          | ((with_reducible refine gate_dst (N := 233) rfl ?_); refine load_event (.agg #[.bool pd.swab, .bool pd.block, .bool pd.unblock, .bool pd.lcase, .bool pd.ucase, .bool pd.ascii, .bool pd.ebcdic, .bool pd.ibm, .int .i64 pd.cbs]) (by rfl) (load_ev23 (tp := 232) (p := pd) rfl rfl HP.out) ?_)
                          | (go_at_call 25; (with_reducible refine (salvorref6_MayConvs.calls k pd.swab pd.block pd.unblock pd.lcase pd.ucase pd.ascii pd.ebcdic pd.ibm pd.cbs true _ HXC.out).mono ?_); rintro e w25 ⟨rfl, hb⟩; replace BR := Aside0.mk (blk_below BR.out hb); replace HP := Aside0.mk (blk_below HP.out hb); replace HB := Aside0.mk (below_step HB.out hb); replace HB3 := Aside0.mk (below_step HB3.out hb); clear hb; have cc24 := (blk_cell HP.out 24).trans (show _ = some (.bool pd.excl) from rfl); have cc25 := (blk_cell HP.out 25).trans (show _ = some (.bool pd.nocreat) from rfl); rw [← HEX.out] at cc24; rw [← HNC.out] at cc25))
                         go_wp2_with (first
                          | ((with_reducible refine gate_store (t := 28) (p := 2) rfl ?_); refine store_event (t := 28) (p := 2) (v := .tmp 256) (w1 := (World.setRow w25 gr zeroPL.c)) ?hg_16 ?ho_16 ?hn_16 ?hr_16 ?_; (case ho_16 => rfl); (case hg_16 => rfl); (case hn_16 => rfl); (case hr_16 => exact store_ev (tp := 2) (tv := 256) (p := zeroPL) (q := zeroPL) rfl rfl rfl BR.out); intro wz9 hw; replace BR := Aside0.mk (show wz9.heap[gr]? = some (.cells zeroPL.c 28 (0, 0)) by {rw [hw]; exact setRow_heap _ gr _ _ 28 (0, 0) BR.out}); replace HB := Aside0.mk (show Below w.heap.size w wz9 by {rw [hw]; exact below_setRow HB.out (Nat.le_of_eq HGR.out.symm) _}); clear hw))
                         refine bodyPost_ret (results_ct rfl _ _ gr 28 zeroPL.c (0, 0) _ rfl BR.out Tryz.underlying28 rfl (by kernel_rfl)) rfl ?_
                         exact ⟨rfl, HB.out⟩
                       | true =>
                        rw [if_pos rfl] at h
                        cases mo2 with
                        | false =>
                         rw [if_neg (by simp)] at h
                         obtain ⟨rfl, rfl⟩ : zeroPL = r ∧ 2 = rc := by simpa [badR] using h
                         clear h
                         as_aux_lemma =>
                          go_upto_region 27 with (first
                           | ((with_reducible refine gate_dst (N := 233) rfl ?_); refine load_event (.agg #[.bool pd.swab, .bool pd.block, .bool pd.unblock, .bool pd.lcase, .bool pd.ucase, .bool pd.ascii, .bool pd.ebcdic, .bool pd.ibm, .int .i64 pd.cbs]) (by rfl) (load_ev23 (tp := 232) (p := pd) rfl rfl HP.out) ?_)
                           | (go_at_call 25; (with_reducible refine (salvorref6_MayConvs.calls k pd.swab pd.block pd.unblock pd.lcase pd.ucase pd.ascii pd.ebcdic pd.ibm pd.cbs true _ HXC.out).mono ?_); rintro e w25 ⟨rfl, hb⟩; replace BR := Aside0.mk (blk_below BR.out hb); replace HP := Aside0.mk (blk_below HP.out hb); replace HB := Aside0.mk (below_step HB.out hb); replace HB3 := Aside0.mk (below_step HB3.out hb); clear hb; have cc24 := (blk_cell HP.out 24).trans (show _ = some (.bool pd.excl) from rfl); have cc25 := (blk_cell HP.out 25).trans (show _ = some (.bool pd.nocreat) from rfl); rw [← HEX.out] at cc24; rw [← HNC.out] at cc25))
                          go_wp2_with (first
                           | ((with_reducible refine gate_store (t := 28) (p := 2) rfl ?_); refine store_event (t := 28) (p := 2) (v := .tmp 256) (w1 := (World.setRow w25 gr zeroPL.c)) ?hg_17 ?ho_17 ?hn_17 ?hr_17 ?_; (case ho_17 => rfl); (case hg_17 => rfl); (case hn_17 => rfl); (case hr_17 => exact store_ev (tp := 2) (tv := 256) (p := zeroPL) (q := zeroPL) rfl rfl rfl BR.out); intro wz9 hw; replace BR := Aside0.mk (show wz9.heap[gr]? = some (.cells zeroPL.c 28 (0, 0)) by {rw [hw]; exact setRow_heap _ gr _ _ 28 (0, 0) BR.out}); replace HB := Aside0.mk (show Below w.heap.size w wz9 by {rw [hw]; exact below_setRow HB.out (Nat.le_of_eq HGR.out.symm) _}); clear hw))
                          refine bodyPost_ret (results_ct rfl _ _ gr 28 zeroPL.c (0, 0) _ rfl BR.out Tryz.underlying28 rfl (by kernel_rfl)) rfl ?_
                          exact ⟨rfl, HB.out⟩
                        | true =>
                         rw [if_pos rfl] at h
                         by_cases hn2 : 1099511627776 < n2
                         ·rw [if_pos hn2] at h
                          have pn2 := eq_true hn2
                          obtain ⟨rfl, rfl⟩ : zeroPL = r ∧ 2 = rc := by simpa [badR] using h
                          clear h
                          as_aux_lemma =>
                           go_upto_region 27 with (first
                            | ((with_reducible refine gate_dst (N := 233) rfl ?_); refine load_event (.agg #[.bool pd.swab, .bool pd.block, .bool pd.unblock, .bool pd.lcase, .bool pd.ucase, .bool pd.ascii, .bool pd.ebcdic, .bool pd.ibm, .int .i64 pd.cbs]) (by rfl) (load_ev23 (tp := 232) (p := pd) rfl rfl HP.out) ?_)
                            | (go_at_call 25; (with_reducible refine (salvorref6_MayConvs.calls k pd.swab pd.block pd.unblock pd.lcase pd.ucase pd.ascii pd.ebcdic pd.ibm pd.cbs true _ HXC.out).mono ?_); rintro e w25 ⟨rfl, hb⟩; replace BR := Aside0.mk (blk_below BR.out hb); replace HP := Aside0.mk (blk_below HP.out hb); replace HB := Aside0.mk (below_step HB.out hb); replace HB3 := Aside0.mk (below_step HB3.out hb); clear hb; have cc24 := (blk_cell HP.out 24).trans (show _ = some (.bool pd.excl) from rfl); have cc25 := (blk_cell HP.out 25).trans (show _ = some (.bool pd.nocreat) from rfl); rw [← HEX.out] at cc24; rw [← HNC.out] at cc25))
                           go_wp2_with (first
                            | ((with_reducible refine gate_store (t := 28) (p := 2) rfl ?_); refine store_event (t := 28) (p := 2) (v := .tmp 256) (w1 := (World.setRow w25 gr zeroPL.c)) ?hg_18 ?ho_18 ?hn_18 ?hr_18 ?_; (case ho_18 => rfl); (case hg_18 => rfl); (case hn_18 => rfl); (case hr_18 => exact store_ev (tp := 2) (tv := 256) (p := zeroPL) (q := zeroPL) rfl rfl rfl BR.out); intro wz9 hw; replace BR := Aside0.mk (show wz9.heap[gr]? = some (.cells zeroPL.c 28 (0, 0)) by {rw [hw]; exact setRow_heap _ gr _ _ 28 (0, 0) BR.out}); replace HB := Aside0.mk (show Below w.heap.size w wz9 by {rw [hw]; exact below_setRow HB.out (Nat.le_of_eq HGR.out.symm) _}); clear hw))
                           refine bodyPost_ret (results_ct rfl _ _ gr 28 zeroPL.c (0, 0) _ rfl BR.out Tryz.underlying28 rfl (by kernel_rfl)) rfl ?_
                           exact ⟨rfl, HB.out⟩
                         ·rw [if_neg hn2] at h
                          have pn2 := eq_false hn2
                          obtain ⟨rfl, rfl⟩ : pd = r ∧ 0 = rc := by simpa using h
                          clear h
                          go_upto_region 28 with (first
                           | ((with_reducible refine gate_dst (N := 233) rfl ?_); refine load_event (.agg #[.bool pd.swab, .bool pd.block, .bool pd.unblock, .bool pd.lcase, .bool pd.ucase, .bool pd.ascii, .bool pd.ebcdic, .bool pd.ibm, .int .i64 pd.cbs]) (by rfl) (load_ev23 (tp := 232) (p := pd) rfl rfl HP.out) ?_)
                           | (go_at_call 25; (with_reducible refine (salvorref6_MayConvs.calls k pd.swab pd.block pd.unblock pd.lcase pd.ucase pd.ascii pd.ebcdic pd.ibm pd.cbs true _ HXC.out).mono ?_); rintro e w25 ⟨rfl, hb⟩; replace BR := Aside0.mk (blk_below BR.out hb); replace HP := Aside0.mk (blk_below HP.out hb); replace HB := Aside0.mk (below_step HB.out hb); replace HB3 := Aside0.mk (below_step HB3.out hb); clear hb; have cc24 := (blk_cell HP.out 24).trans (show _ = some (.bool pd.excl) from rfl); have cc25 := (blk_cell HP.out 25).trans (show _ = some (.bool pd.nocreat) from rfl); rw [← HEX.out] at cc24; rw [← HNC.out] at cc25))
                          clear cc24 cc25
                          have GR0 := Aside0.mk (Nat.le_of_eq HGR.out.symm)
                          go_wp2_with (first
                           | ((with_reducible refine gate_dst (N := 257) rfl ?_); refine load_event (.agg pd.c) (by rfl) (load_ev (tp := 6) rfl rfl HP.out) ?_)
                           | ((with_reducible refine gate_store (t := 28) (p := 2) rfl ?_); refine store_event (t := 28) (p := 2) (v := .tmp 257) (w1 := (World.setRow w25 gr pd.c)) ?hg_19 ?ho_19 ?hn_19 ?hr_19 ?_; (case ho_19 => rfl); (case hg_19 => rfl); (case hn_19 => rfl); (case hr_19 => exact store_ev (tp := 2) (tv := 257) (p := zeroPL) (q := pd) rfl rfl rfl BR.out); intro wz9 hw; replace BR := Aside0.mk (show wz9.heap[gr]? = some (.cells pd.c 28 (0, 0)) by {rw [hw]; exact setRow_heap _ gr _ _ 28 (0, 0) BR.out}); replace HB := Aside0.mk (show Below w.heap.size w wz9 by {rw [hw]; exact below_setRow HB.out (Nat.le_of_eq HGR.out.symm) _}); clear hw))
                          refine bodyPost_ret (results_ct rfl _ _ gr 28 pd.c (0, 0) _ rfl BR.out Tryz.underlying28 rfl (by kernel_rfl)) rfl ?_
                          exact ⟨rfl, HB.out⟩
                     | false =>
                      rw [if_neg (by simp)] at h
                      cases mo1 with
                      | false =>
                       rw [if_neg (by simp)] at h
                       obtain ⟨rfl, rfl⟩ : zeroPL = r ∧ 2 = rc := by simpa [badR] using h
                       clear h
                       as_aux_lemma =>
                        go_upto_region 27 with (first
                         | ((with_reducible refine gate_dst (N := 233) rfl ?_); refine load_event (.agg #[.bool pd.swab, .bool pd.block, .bool pd.unblock, .bool pd.lcase, .bool pd.ucase, .bool pd.ascii, .bool pd.ebcdic, .bool pd.ibm, .int .i64 pd.cbs]) (by rfl) (load_ev23 (tp := 232) (p := pd) rfl rfl HP.out) ?_)
                         | (go_at_call 25; (with_reducible refine (salvorref6_MayConvs.calls k pd.swab pd.block pd.unblock pd.lcase pd.ucase pd.ascii pd.ebcdic pd.ibm pd.cbs true _ HXC.out).mono ?_); rintro e w25 ⟨rfl, hb⟩; replace BR := Aside0.mk (blk_below BR.out hb); replace HP := Aside0.mk (blk_below HP.out hb); replace HB := Aside0.mk (below_step HB.out hb); replace HB3 := Aside0.mk (below_step HB3.out hb); clear hb; have cc24 := (blk_cell HP.out 24).trans (show _ = some (.bool pd.excl) from rfl); have cc25 := (blk_cell HP.out 25).trans (show _ = some (.bool pd.nocreat) from rfl); rw [← HEX.out] at cc24; rw [← HNC.out] at cc25))
                        go_wp2_with (first
                         | ((with_reducible refine gate_store (t := 28) (p := 2) rfl ?_); refine store_event (t := 28) (p := 2) (v := .tmp 256) (w1 := (World.setRow w25 gr zeroPL.c)) ?hg_20 ?ho_20 ?hn_20 ?hr_20 ?_; (case ho_20 => rfl); (case hg_20 => rfl); (case hn_20 => rfl); (case hr_20 => exact store_ev (tp := 2) (tv := 256) (p := zeroPL) (q := zeroPL) rfl rfl rfl BR.out); intro wz9 hw; replace BR := Aside0.mk (show wz9.heap[gr]? = some (.cells zeroPL.c 28 (0, 0)) by {rw [hw]; exact setRow_heap _ gr _ _ 28 (0, 0) BR.out}); replace HB := Aside0.mk (show Below w.heap.size w wz9 by {rw [hw]; exact below_setRow HB.out (Nat.le_of_eq HGR.out.symm) _}); clear hw))
                        refine bodyPost_ret (results_ct rfl _ _ gr 28 zeroPL.c (0, 0) _ rfl BR.out Tryz.underlying28 rfl (by kernel_rfl)) rfl ?_
                        exact ⟨rfl, HB.out⟩
                      | true =>
                       rw [if_pos rfl] at h
                       cases mo2 with
                       | false =>
                        rw [if_neg (by simp)] at h
                        obtain ⟨rfl, rfl⟩ : zeroPL = r ∧ 2 = rc := by simpa [badR] using h
                        clear h
                        as_aux_lemma =>
                         go_upto_region 27 with (first
                          | ((with_reducible refine gate_dst (N := 233) rfl ?_); refine load_event (.agg #[.bool pd.swab, .bool pd.block, .bool pd.unblock, .bool pd.lcase, .bool pd.ucase, .bool pd.ascii, .bool pd.ebcdic, .bool pd.ibm, .int .i64 pd.cbs]) (by rfl) (load_ev23 (tp := 232) (p := pd) rfl rfl HP.out) ?_)
                          | (go_at_call 25; (with_reducible refine (salvorref6_MayConvs.calls k pd.swab pd.block pd.unblock pd.lcase pd.ucase pd.ascii pd.ebcdic pd.ibm pd.cbs true _ HXC.out).mono ?_); rintro e w25 ⟨rfl, hb⟩; replace BR := Aside0.mk (blk_below BR.out hb); replace HP := Aside0.mk (blk_below HP.out hb); replace HB := Aside0.mk (below_step HB.out hb); replace HB3 := Aside0.mk (below_step HB3.out hb); clear hb; have cc24 := (blk_cell HP.out 24).trans (show _ = some (.bool pd.excl) from rfl); have cc25 := (blk_cell HP.out 25).trans (show _ = some (.bool pd.nocreat) from rfl); rw [← HEX.out] at cc24; rw [← HNC.out] at cc25))
                         go_wp2_with (first
                          | ((with_reducible refine gate_store (t := 28) (p := 2) rfl ?_); refine store_event (t := 28) (p := 2) (v := .tmp 256) (w1 := (World.setRow w25 gr zeroPL.c)) ?hg_21 ?ho_21 ?hn_21 ?hr_21 ?_; (case ho_21 => rfl); (case hg_21 => rfl); (case hn_21 => rfl); (case hr_21 => exact store_ev (tp := 2) (tv := 256) (p := zeroPL) (q := zeroPL) rfl rfl rfl BR.out); intro wz9 hw; replace BR := Aside0.mk (show wz9.heap[gr]? = some (.cells zeroPL.c 28 (0, 0)) by {rw [hw]; exact setRow_heap _ gr _ _ 28 (0, 0) BR.out}); replace HB := Aside0.mk (show Below w.heap.size w wz9 by {rw [hw]; exact below_setRow HB.out (Nat.le_of_eq HGR.out.symm) _}); clear hw))
                         refine bodyPost_ret (results_ct rfl _ _ gr 28 zeroPL.c (0, 0) _ rfl BR.out Tryz.underlying28 rfl (by kernel_rfl)) rfl ?_
                         exact ⟨rfl, HB.out⟩
                       | true =>
                        rw [if_pos rfl] at h
                        by_cases hn2 : 1099511627776 < n2
                        ·rw [if_pos hn2] at h
                         have pn2 := eq_true hn2
                         obtain ⟨rfl, rfl⟩ : zeroPL = r ∧ 2 = rc := by simpa [badR] using h
                         clear h
                         as_aux_lemma =>
                          go_upto_region 27 with (first
                           | ((with_reducible refine gate_dst (N := 233) rfl ?_); refine load_event (.agg #[.bool pd.swab, .bool pd.block, .bool pd.unblock, .bool pd.lcase, .bool pd.ucase, .bool pd.ascii, .bool pd.ebcdic, .bool pd.ibm, .int .i64 pd.cbs]) (by rfl) (load_ev23 (tp := 232) (p := pd) rfl rfl HP.out) ?_)
                           | (go_at_call 25; (with_reducible refine (salvorref6_MayConvs.calls k pd.swab pd.block pd.unblock pd.lcase pd.ucase pd.ascii pd.ebcdic pd.ibm pd.cbs true _ HXC.out).mono ?_); rintro e w25 ⟨rfl, hb⟩; replace BR := Aside0.mk (blk_below BR.out hb); replace HP := Aside0.mk (blk_below HP.out hb); replace HB := Aside0.mk (below_step HB.out hb); replace HB3 := Aside0.mk (below_step HB3.out hb); clear hb; have cc24 := (blk_cell HP.out 24).trans (show _ = some (.bool pd.excl) from rfl); have cc25 := (blk_cell HP.out 25).trans (show _ = some (.bool pd.nocreat) from rfl); rw [← HEX.out] at cc24; rw [← HNC.out] at cc25))
                          go_wp2_with (first
                           | ((with_reducible refine gate_store (t := 28) (p := 2) rfl ?_); refine store_event (t := 28) (p := 2) (v := .tmp 256) (w1 := (World.setRow w25 gr zeroPL.c)) ?hg_22 ?ho_22 ?hn_22 ?hr_22 ?_; (case ho_22 => rfl); (case hg_22 => rfl); (case hn_22 => rfl); (case hr_22 => exact store_ev (tp := 2) (tv := 256) (p := zeroPL) (q := zeroPL) rfl rfl rfl BR.out); intro wz9 hw; replace BR := Aside0.mk (show wz9.heap[gr]? = some (.cells zeroPL.c 28 (0, 0)) by {rw [hw]; exact setRow_heap _ gr _ _ 28 (0, 0) BR.out}); replace HB := Aside0.mk (show Below w.heap.size w wz9 by {rw [hw]; exact below_setRow HB.out (Nat.le_of_eq HGR.out.symm) _}); clear hw))
                          refine bodyPost_ret (results_ct rfl _ _ gr 28 zeroPL.c (0, 0) _ rfl BR.out Tryz.underlying28 rfl (by kernel_rfl)) rfl ?_
                          exact ⟨rfl, HB.out⟩
                        ·rw [if_neg hn2] at h
                         have pn2 := eq_false hn2
                         obtain ⟨rfl, rfl⟩ : pd = r ∧ 0 = rc := by simpa using h
                         clear h
                         go_upto_region 28 with (first
                          | ((with_reducible refine gate_dst (N := 233) rfl ?_); refine load_event (.agg #[.bool pd.swab, .bool pd.block, .bool pd.unblock, .bool pd.lcase, .bool pd.ucase, .bool pd.ascii, .bool pd.ebcdic, .bool pd.ibm, .int .i64 pd.cbs]) (by rfl) (load_ev23 (tp := 232) (p := pd) rfl rfl HP.out) ?_)
                          | (go_at_call 25; (with_reducible refine (salvorref6_MayConvs.calls k pd.swab pd.block pd.unblock pd.lcase pd.ucase pd.ascii pd.ebcdic pd.ibm pd.cbs true _ HXC.out).mono ?_); rintro e w25 ⟨rfl, hb⟩; replace BR := Aside0.mk (blk_below BR.out hb); replace HP := Aside0.mk (blk_below HP.out hb); replace HB := Aside0.mk (below_step HB.out hb); replace HB3 := Aside0.mk (below_step HB3.out hb); clear hb; have cc24 := (blk_cell HP.out 24).trans (show _ = some (.bool pd.excl) from rfl); have cc25 := (blk_cell HP.out 25).trans (show _ = some (.bool pd.nocreat) from rfl); rw [← HEX.out] at cc24; rw [← HNC.out] at cc25))
                         clear cc24 cc25
                         have GR0 := Aside0.mk (Nat.le_of_eq HGR.out.symm)
                         go_wp2_with (first
                          | ((with_reducible refine gate_dst (N := 257) rfl ?_); refine load_event (.agg pd.c) (by rfl) (load_ev (tp := 6) rfl rfl HP.out) ?_)
                          | ((with_reducible refine gate_store (t := 28) (p := 2) rfl ?_); refine store_event (t := 28) (p := 2) (v := .tmp 257) (w1 := (World.setRow w25 gr pd.c)) ?hg_23 ?ho_23 ?hn_23 ?hr_23 ?_; (case ho_23 => rfl); (case hg_23 => rfl); (case hn_23 => rfl); (case hr_23 => exact store_ev (tp := 2) (tv := 257) (p := zeroPL) (q := pd) rfl rfl rfl BR.out); intro wz9 hw; replace BR := Aside0.mk (show wz9.heap[gr]? = some (.cells pd.c 28 (0, 0)) by {rw [hw]; exact setRow_heap _ gr _ _ 28 (0, 0) BR.out}); replace HB := Aside0.mk (show Below w.heap.size w wz9 by {rw [hw]; exact below_setRow HB.out (Nat.le_of_eq HGR.out.symm) _}); clear hw))
                         refine bodyPost_ret (results_ct rfl _ _ gr 28 pd.c (0, 0) _ rfl BR.out Tryz.underlying28 rfl (by kernel_rfl)) rfl ?_
                         exact ⟨rfl, HB.out⟩
end Go.Proofs.YtbmhfnncagncmaaGreatDoor.P
