/- The walk of maptext.Parse: what it answers, as one function of its argument. No conditions beyond that function's own. -/
import Derived.Test.YtlcablcpcbmgeaaGreatDoorPx0
import Derived.Test.YtlcablcpcbmgeaaGreatDoorPx5
import Derived.Test.YtlcablcpcbmgeaaGreatDoorPx15
import Derived.Test.YtlcablcpcbmgeaaGreatDoorPx18
import Derived.Test.YtlcablcpcbmgeaaGreatDoorPx20
import Derived.Test.YtlcablcpcbmgeaaGreatDoorMapA
import Derived.Laws.CopyRow
namespace Go.Proofs.YtlcablcpcbmgeaaGreatDoor.P
open Go.RowKit Go.Proofs.YtlcablcpcbmgeaaGreatDoorW.PrintWords Go.Proofs.YtlcablcpcbmgeaaGreatDoorW.PrintLast
-- names: maptext_May.f maptext_lines.f maptext_place.f maptext_status.f num_GetDec.f maptext_regions.f
set_option linter.unusedVariables false
set_option linter.unusedSimpArgs false
def badM : Option (Int × Int × Int × List S23 × Int) := some (0, 0, 0, [], 6)
/-- What follows when there is a first line. -/
def headF (k : Nat) (l : List (List ByteArray)) : Option (Int × Int × Int × List S23 × Int) :=
  if 3 ≤ (rd_L6 l 0).length then (maptext_place.f (rdOf ByteArray.empty (rd_L6 l 0) 0)).bind fun a => (maptext_status.f (rdOf ByteArray.empty (rd_L6 l 0) 1)).bind fun b => (num_GetDec.f (rdOf ByteArray.empty (rd_L6 l 0) 2)).bind fun c => (maptext_regions.f k (l.drop 1)).bind fun rs =>
    if a.2 = true then if b.2 = true then if c.2 = true then if rs.2 = true then (maptext_May.f k a.1 c.1 b.1 rs.1).bind fun m => if m = true then some (a.1, c.1, b.1, rs.1, 0) else badM else badM else badM else badM else badM
  else none
def parseMF (k : Nat) (s : ByteArray) : Option (Int × Int × Int × List S23 × Int) :=
  if 40000 < s.size then badM else (maptext_lines.f k s).bind fun x => if x.2 = true then if x.1 = [] then badM else headF k x.1 else badM
theorem headF_mono (l : List (List ByteArray)) (k : Nat) : LeO (headF k l) (headF (k + 1) l) :=
  LeO.ite (LeO.bind (LeO.refl _) fun _ => LeO.bind (LeO.refl _) fun _ => LeO.bind (LeO.refl _) fun _ => LeO.bind (maptext_regions.mono _ _) fun _ => LeO.ite (LeO.ite (LeO.ite (LeO.ite (LeO.bind (maptext_May.mono _ _ _ _ _) fun _ => LeO.refl _) (LeO.refl _)) (LeO.refl _)) (LeO.refl _)) (LeO.refl _)) (LeO.none _)
theorem parseMF_mono (s : ByteArray) (k : Nat) : LeO (parseMF k s) (parseMF (k + 1) s) :=
  LeO.ite (LeO.refl _) (LeO.bind (maptext_lines.mono _ _) fun _ => LeO.ite (LeO.ite (LeO.refl _) (headF_mono _ _)) (LeO.refl _))
set_option maxHeartbeats 8000000 in
set_option maxRecDepth 100000 in
theorem parseM_walk (k : Nat) (s : ByteArray) (r1 r2 r3 : Int) (r4 : List S23) (r5 : Int) (w : World) (htab : TabAt w) (h : parseMF k s = some (r1, r2, r3, r4, r5)) :
    Calls Tryz.prog 11 #[.string s] w fun e w' => ∃ v : Value, e = .returned (.tuple #[.agg #[.int .i64 r1, .int .i64 r2, .int .u8 r3, v], .int .i64 r5]) ∧ Kd.R k23 23 w' w.heap.size (fun _ => True) v r4 ∧ Below w.heap.size w w' := by
  unfold parseMF at h
  have HT := Aside0.mk htab
  clear htab
  by_cases hbig : 40000 < s.size
  · rw [if_pos hbig] at h
    obtain ⟨rfl, rfl, rfl, rfl, rfl⟩ : 0 = r1 ∧ 0 = r2 ∧ 0 = r3 ∧ [] = r4 ∧ 6 = r5 := by simpa [badM] using h
    clear h
    have pb := eq_true (show (40000 : Int) < (s.size : Int) from by omega)
    go_enter Tryz.func11, Tryz.ntmps11
    go_wp2_with (first
      | ((with_reducible refine gate_dst (N := 2) rfl ?_); refine box_e 2 #[.int .i64 0, .int .i64 0, .int .u8 0, .slice none 0 0] 26 ?_; intro gr hg w1 hbox hb; have BR := Aside0.mk hbox; have HB := Aside0.mk hb; have GR := Aside0.mk (Nat.le_of_eq hg.symm); clear hg hbox hb; have cc0 := (blk_cell BR.out 0).trans (show _ = some (.int .i64 0) from rfl); have cc1 := (blk_cell BR.out 1).trans (show _ = some (.int .i64 0) from rfl); have cc2 := (blk_cell BR.out 2).trans (show _ = some (.int .u8 0) from rfl); have cc3 := (blk_cell BR.out 3).trans (show _ = some (.slice none 0 0) from rfl); have ff0 := blk_frozen BR.out 0; have ff1 := blk_frozen BR.out 1; have ff2 := blk_frozen BR.out 2; have ff3 := blk_frozen BR.out 3))
    refine bodyPost_ret (results_ct rfl _ _ gr 26 #[.int .i64 0, .int .i64 0, .int .u8 0, .slice none 0 0] (0, 0) _ rfl (blk_put (blk_put (blk_put (blk_put BR.out 0 _ rfl) 1 _ rfl) 2 _ rfl) 3 _ rfl) Tryz.underlying26 rfl (by kernel_rfl)) rfl ?_
    exact ⟨_, rfl, Kd.R_nil _ _ _ _ _, below_set (below_set (below_set (below_set HB.out GR.out) GR.out) GR.out) GR.out⟩
  rw [if_neg hbig] at h
  have pb := eq_false (show ¬ (40000 : Int) < (s.size : Int) from by omega)
  obtain ⟨⟨l, ok⟩, hl, h⟩ := Option.bind_eq_some_iff.mp h
  have HL := Aside0.mk hl
  clear hl hbig
  cases ok with
  | false =>
    rw [if_neg (by simp)] at h
    obtain ⟨rfl, rfl, rfl, rfl, rfl⟩ : 0 = r1 ∧ 0 = r2 ∧ 0 = r3 ∧ [] = r4 ∧ 6 = r5 := by simpa [badM] using h
    clear h
    go_enter Tryz.func11, Tryz.ntmps11
    go_wp2_with (first
      | ((with_reducible refine gate_dst (N := 2) rfl ?_); refine box_e 2 #[.int .i64 0, .int .i64 0, .int .u8 0, .slice none 0 0] 26 ?_; intro gr hg w1 hbox hb; have BR := Aside0.mk hbox; have HB := Aside0.mk hb; have GR := Aside0.mk (Nat.le_of_eq hg.symm); clear hg hbox hb; have cc0 := (blk_cell BR.out 0).trans (show _ = some (.int .i64 0) from rfl); have cc1 := (blk_cell BR.out 1).trans (show _ = some (.int .i64 0) from rfl); have cc2 := (blk_cell BR.out 2).trans (show _ = some (.int .u8 0) from rfl); have cc3 := (blk_cell BR.out 3).trans (show _ = some (.slice none 0 0) from rfl); have ff0 := blk_frozen BR.out 0; have ff1 := blk_frozen BR.out 1; have ff2 := blk_frozen BR.out 2; have ff3 := blk_frozen BR.out 3)
      | (go_at_call 29; (with_reducible refine (maptext_lines.calls k s l false _ HL.out (HT.out.below HB.out)).mono ?_); rintro e w2 ⟨v0, rfl, hr, hb⟩; obtain ⟨A0, c0, ev⟩ := Kd.S_slice hr; subst ev; have HK := Aside0.mk (Kd.S_reads' hr).2.2; have HKc := Aside0.mk (Kd.S_reads' hr).2.1; replace BR := Aside0.mk (blk_below BR.out hb); replace HB := Aside0.mk (below_step HB.out hb); clear cc0 cc1 cc2 cc3 ff0 ff1 ff2 ff3; have cc0 := (blk_cell BR.out 0).trans (show _ = some (.int .i64 0) from rfl); have cc1 := (blk_cell BR.out 1).trans (show _ = some (.int .i64 0) from rfl); have cc2 := (blk_cell BR.out 2).trans (show _ = some (.int .u8 0) from rfl); have cc3 := (blk_cell BR.out 3).trans (show _ = some (.slice none 0 0) from rfl); have ff0 := blk_frozen BR.out 0; have ff1 := blk_frozen BR.out 1; have ff2 := blk_frozen BR.out 2; have ff3 := blk_frozen BR.out 3; clear hb hr))
    refine bodyPost_ret (results_ct rfl _ _ gr 26 #[.int .i64 0, .int .i64 0, .int .u8 0, .slice none 0 0] (0, 0) _ rfl (blk_put (blk_put (blk_put (blk_put BR.out 0 _ rfl) 1 _ rfl) 2 _ rfl) 3 _ rfl) Tryz.underlying26 rfl (by kernel_rfl)) rfl ?_
    exact ⟨_, rfl, Kd.R_nil _ _ _ _ _, below_set (below_set (below_set (below_set HB.out GR.out) GR.out) GR.out) GR.out⟩
  | true =>
    rw [if_pos rfl] at h
    by_cases hnil : l = []
    · rw [if_pos hnil] at h
      obtain ⟨rfl, rfl, rfl, rfl, rfl⟩ : 0 = r1 ∧ 0 = r2 ∧ 0 = r3 ∧ [] = r4 ∧ 6 = r5 := by simpa [badM] using h
      clear h
      have pn := eq_true (show (l.length : Int) = 0 from by rw [hnil]; rfl)
      have pnb : ((l.length : Int) == 0) = true := beq_iff_eq.mpr (by rw [hnil]; rfl)
      go_enter Tryz.func11, Tryz.ntmps11
      go_wp2_with (first
        | ((with_reducible refine gate_dst (N := 2) rfl ?_); refine box_e 2 #[.int .i64 0, .int .i64 0, .int .u8 0, .slice none 0 0] 26 ?_; intro gr hg w1 hbox hb; have BR := Aside0.mk hbox; have HB := Aside0.mk hb; have GR := Aside0.mk (Nat.le_of_eq hg.symm); clear hg hbox hb; have cc0 := (blk_cell BR.out 0).trans (show _ = some (.int .i64 0) from rfl); have cc1 := (blk_cell BR.out 1).trans (show _ = some (.int .i64 0) from rfl); have cc2 := (blk_cell BR.out 2).trans (show _ = some (.int .u8 0) from rfl); have cc3 := (blk_cell BR.out 3).trans (show _ = some (.slice none 0 0) from rfl); have ff0 := blk_frozen BR.out 0; have ff1 := blk_frozen BR.out 1; have ff2 := blk_frozen BR.out 2; have ff3 := blk_frozen BR.out 3)
        | (go_at_call 29; (with_reducible refine (maptext_lines.calls k s l true _ HL.out (HT.out.below HB.out)).mono ?_); rintro e w2 ⟨v0, rfl, hr, hb⟩; obtain ⟨A0, c0, ev⟩ := Kd.S_slice hr; subst ev; have HK := Aside0.mk (Kd.S_reads' hr).2.2; have HKc := Aside0.mk (Kd.S_reads' hr).2.1; replace BR := Aside0.mk (blk_below BR.out hb); replace HB := Aside0.mk (below_step HB.out hb); clear cc0 cc1 cc2 cc3 ff0 ff1 ff2 ff3; have cc0 := (blk_cell BR.out 0).trans (show _ = some (.int .i64 0) from rfl); have cc1 := (blk_cell BR.out 1).trans (show _ = some (.int .i64 0) from rfl); have cc2 := (blk_cell BR.out 2).trans (show _ = some (.int .u8 0) from rfl); have cc3 := (blk_cell BR.out 3).trans (show _ = some (.slice none 0 0) from rfl); have ff0 := blk_frozen BR.out 0; have ff1 := blk_frozen BR.out 1; have ff2 := blk_frozen BR.out 2; have ff3 := blk_frozen BR.out 3; clear hb hr))
      refine bodyPost_ret (results_ct rfl _ _ gr 26 #[.int .i64 0, .int .i64 0, .int .u8 0, .slice none 0 0] (0, 0) _ rfl (blk_put (blk_put (blk_put (blk_put BR.out 0 _ rfl) 1 _ rfl) 2 _ rfl) 3 _ rfl) Tryz.underlying26 rfl (by kernel_rfl)) rfl ?_
      exact ⟨_, rfl, Kd.R_nil _ _ _ _ _, below_set (below_set (below_set (below_set HB.out GR.out) GR.out) GR.out) GR.out⟩
    rw [if_neg hnil] at h
    have hpos : 0 < l.length := List.length_pos_iff.2 hnil
    have pn := eq_false (show ¬ (l.length : Int) = 0 from by omega)
    have pnb : ((l.length : Int) == 0) = false := beq_eq_false_iff_ne.mpr (by omega)
    have p0 := eq_true (show (0 : Int) < (l.length : Int) from by omega)
    unfold headF at h
    by_cases h3 : 3 ≤ (rd_L6 l 0).length
    rotate_left
    · rw [if_neg h3] at h; cases h
    rw [if_pos h3] at h
    obtain ⟨⟨a, ba⟩, ha, h⟩ := Option.bind_eq_some_iff.mp h
    obtain ⟨⟨st, bs⟩, hs, h⟩ := Option.bind_eq_some_iff.mp h
    obtain ⟨⟨c, bc⟩, hc, h⟩ := Option.bind_eq_some_iff.mp h
    obtain ⟨⟨rs, br⟩, hrs, h⟩ := Option.bind_eq_some_iff.mp h
    have HA := Aside0.mk ha
    have HS := Aside0.mk hs
    have HC := Aside0.mk hc
    have HRS := Aside0.mk hrs
    have HH := Aside0.mk h
    clear ha hs hc hrs h
    go_enter Tryz.func11, Tryz.ntmps11
    go_upto_region 4 with (first
      | ((with_reducible refine gate_dst (N := 2) rfl ?_); refine box_e 2 #[.int .i64 0, .int .i64 0, .int .u8 0, .slice none 0 0] 26 ?_; intro gr hg w1 hbox hb; have BR := Aside0.mk hbox; have HB := Aside0.mk hb; have GR := Aside0.mk (Nat.le_of_eq hg.symm); clear hg hbox hb; have cc0 := (blk_cell BR.out 0).trans (show _ = some (.int .i64 0) from rfl); have cc1 := (blk_cell BR.out 1).trans (show _ = some (.int .i64 0) from rfl); have cc2 := (blk_cell BR.out 2).trans (show _ = some (.int .u8 0) from rfl); have cc3 := (blk_cell BR.out 3).trans (show _ = some (.slice none 0 0) from rfl); have ff0 := blk_frozen BR.out 0; have ff1 := blk_frozen BR.out 1; have ff2 := blk_frozen BR.out 2; have ff3 := blk_frozen BR.out 3)
      | (go_at_call 29; (with_reducible refine (maptext_lines.calls k s l true _ HL.out (HT.out.below HB.out)).mono ?_); rintro e w2 ⟨v0, rfl, hr, hb⟩; obtain ⟨A0, c0, ev⟩ := Kd.S_slice hr; subst ev; have HK := Aside0.mk (Kd.S_reads' hr).2.2; have HKc := Aside0.mk (Kd.S_reads' hr).2.1; replace BR := Aside0.mk (blk_below BR.out hb); replace HB := Aside0.mk (below_step HB.out hb); clear cc0 cc1 cc2 cc3 ff0 ff1 ff2 ff3; have cc0 := (blk_cell BR.out 0).trans (show _ = some (.int .i64 0) from rfl); have cc1 := (blk_cell BR.out 1).trans (show _ = some (.int .i64 0) from rfl); have cc2 := (blk_cell BR.out 2).trans (show _ = some (.int .u8 0) from rfl); have cc3 := (blk_cell BR.out 3).trans (show _ = some (.slice none 0 0) from rfl); have ff0 := blk_frozen BR.out 0; have ff1 := blk_frozen BR.out 1; have ff2 := blk_frozen BR.out 2; have ff3 := blk_frozen BR.out 3; clear hb hr))
    go_upto_region 6 with (fail)
    obtain ⟨ad, A1, c1, e1, x0, hl1, hi1⟩ := at_L6 HK.out 0 (Int.le_refl 0) (by omega)
    cases e1
    rw [show ((0 : Int)).toNat = 0 from rfl, Addr.add_zero'] at x0
    obtain ⟨ad1, e2, y0⟩ := Kd.at_string hi1 0 (by omega) (by omega)
    cases e2
    rw [show ((0 : Int)).toNat = 0 from rfl, Addr.add_zero'] at y0
    have pq := eq_true (show (0 : Int) < ((rd_L6 l 0).length : Int) from by omega)
    have pqn := eq_true (show 0 < (rd_L6 l 0).length from by omega)
    go_upto_region 7 with (first | (go_at_call 30; (with_reducible refine (maptext_place.calls (rdOf ByteArray.empty (rd_L6 l 0) 0) a ba _ HA.out (HT.out.below HB.out)).mono ?_); rintro e w3 ⟨rfl, hb⟩; replace HK := Aside0.mk (Kd.C_below HK.out hb); clear x0 y0 hl1 hi1; replace BR := Aside0.mk (blk_below BR.out hb); replace HB := Aside0.mk (below_step HB.out hb); clear cc0 cc1 cc2 cc3 ff0 ff1 ff2 ff3; have cc0 := (blk_cell BR.out 0).trans (show _ = some (.int .i64 0) from rfl); have cc1 := (blk_cell BR.out 1).trans (show _ = some (.int .i64 0) from rfl); have cc2 := (blk_cell BR.out 2).trans (show _ = some (.int .u8 0) from rfl); have cc3 := (blk_cell BR.out 3).trans (show _ = some (.slice none 0 0) from rfl); have ff0 := blk_frozen BR.out 0; have ff1 := blk_frozen BR.out 1; have ff2 := blk_frozen BR.out 2; have ff3 := blk_frozen BR.out 3; clear hb))
    clear pq pqn
    obtain ⟨ad, A1, c1, e1, x0, hl1, hi1⟩ := at_L6 HK.out 0 (Int.le_refl 0) (by omega)
    cases e1
    rw [show ((0 : Int)).toNat = 0 from rfl, Addr.add_zero'] at x0
    obtain ⟨ad1, e2, y0⟩ := Kd.at_string hi1 1 (by omega) (by omega)
    cases e2
    rw [show ((1 : Int)).toNat = 0 + 1 from rfl, Addr.add_succ'] at y0; simp only [Nat.reduceAdd] at y0
    have pq := eq_true (show (1 : Int) < ((rd_L6 l 0).length : Int) from by omega)
    have pqn := eq_true (show 1 < (rd_L6 l 0).length from by omega)
    go_upto_region 8 with (first | (go_at_call 31; (with_reducible refine (maptext_status.calls (rdOf ByteArray.empty (rd_L6 l 0) 1) st bs _ HS.out).mono ?_); rintro e w4 ⟨rfl, hb⟩; replace hb := Drawn0.below hb; replace HK := Aside0.mk (Kd.C_below HK.out hb); clear x0 y0 hl1 hi1; replace BR := Aside0.mk (blk_below BR.out hb); replace HB := Aside0.mk (below_step HB.out hb); clear cc0 cc1 cc2 cc3 ff0 ff1 ff2 ff3; have cc0 := (blk_cell BR.out 0).trans (show _ = some (.int .i64 0) from rfl); have cc1 := (blk_cell BR.out 1).trans (show _ = some (.int .i64 0) from rfl); have cc2 := (blk_cell BR.out 2).trans (show _ = some (.int .u8 0) from rfl); have cc3 := (blk_cell BR.out 3).trans (show _ = some (.slice none 0 0) from rfl); have ff0 := blk_frozen BR.out 0; have ff1 := blk_frozen BR.out 1; have ff2 := blk_frozen BR.out 2; have ff3 := blk_frozen BR.out 3; clear hb))
    clear pq pqn
    obtain ⟨ad, A1, c1, e1, x0, hl1, hi1⟩ := at_L6 HK.out 0 (Int.le_refl 0) (by omega)
    cases e1
    rw [show ((0 : Int)).toNat = 0 from rfl, Addr.add_zero'] at x0
    obtain ⟨ad1, e2, y0⟩ := Kd.at_string hi1 2 (by omega) (by omega)
    cases e2
    rw [show ((2 : Int)).toNat = 1 + 1 from rfl, Addr.add_succ'] at y0; simp only [Nat.reduceAdd] at y0
    have pq := eq_true (show (2 : Int) < ((rd_L6 l 0).length : Int) from by omega)
    have pqn := eq_true (show 2 < (rd_L6 l 0).length from by omega)
    go_upto_region 9 with (first | (go_at_call 32; (with_reducible refine (num_GetDec.calls (rdOf ByteArray.empty (rd_L6 l 0) 2) c bc _ HC.out (HT.out.below HB.out)).mono ?_); rintro e w5 ⟨rfl, hb⟩; replace HK := Aside0.mk (Kd.C_below HK.out hb); clear x0 y0 hl1 hi1; replace BR := Aside0.mk (blk_below BR.out hb); replace HB := Aside0.mk (below_step HB.out hb); clear cc0 cc1 cc2 cc3 ff0 ff1 ff2 ff3; have cc0 := (blk_cell BR.out 0).trans (show _ = some (.int .i64 0) from rfl); have cc1 := (blk_cell BR.out 1).trans (show _ = some (.int .i64 0) from rfl); have cc2 := (blk_cell BR.out 2).trans (show _ = some (.int .u8 0) from rfl); have cc3 := (blk_cell BR.out 3).trans (show _ = some (.slice none 0 0) from rfl); have ff0 := blk_frozen BR.out 0; have ff1 := blk_frozen BR.out 1; have ff2 := blk_frozen BR.out 2; have ff3 := blk_frozen BR.out 3; clear hb))
    clear pq pqn
    obtain ⟨in36, hin36, _, hsz36, _⟩ := info_parts info36
    have hcut := cut_from (P := Tryz.prog) 58 36 .i64 Tryz.underlying58 hin36 1 hsz36 (some ad) l.length c0 1 (by omega) (by omega)
    have hKD := Kd.C_drop (m := 1) (c := c0) HK.out (by omega) HKc.out
    rw [show ((1 : Int)).toNat = 1 from rfl] at hcut
    obtain ⟨A2, hA2⟩ : ∃ A2, A2 = (if c0 = 1 then (some ad : Option Addr) else (some ad : Option Addr).map (·.add (1 * 1))) := ⟨_, rfl⟩
    rw [← hA2] at hcut
    replace hKD : Kd.C (Kd.slice 9 Kd.string) w5 A2 (l.drop 1).length (l.drop 1) := by rw [hA2]; exact hKD
    have hld : (l.drop 1).length = l.length - 1 := by rw [List.length_drop]
    have hcd : (l.drop 1).length ≤ c0 - 1 := by have := HKc.out; omega
    have KD := Aside0.mk hKD
    have HCD := Aside0.mk hcd
    rw [← hld] at hcut
    obtain ⟨dl, hdl⟩ : ∃ t, t = l.drop 1 := ⟨_, rfl⟩
    rw [← hdl] at KD HCD hcut HRS
    clear hKD hsz36 hA2 hcd hld hdl
    have pc := eq_true (show (1 : Int) ≤ (l.length : Int) from by omega)
    have pcn := eq_true (show 1 ≤ l.length from by omega)
    go_upto_region 10 with (first | (go_at_call 33; (with_reducible refine (maptext_regions.calls k A2 (c0 - 1) dl rs br _ KD.out HCD.out HRS.out (HT.out.below HB.out)).mono ?_); rintro e w6 ⟨v0, rfl, hr, hb⟩; have HLE := Aside0.mk (HB.out.size); have HR := Aside0.mk (Kd.R_newB hr BR.out); obtain ⟨A3, c3, ev⟩ := Kd.R_slice hr; subst ev; clear hr; replace BR := Aside0.mk (blk_below BR.out hb); replace HB := Aside0.mk (below_step HB.out hb); clear cc0 cc1 cc2 cc3 ff0 ff1 ff2 ff3; have cc0 := (blk_cell BR.out 0).trans (show _ = some (.int .i64 0) from rfl); have cc1 := (blk_cell BR.out 1).trans (show _ = some (.int .i64 0) from rfl); have cc2 := (blk_cell BR.out 2).trans (show _ = some (.int .u8 0) from rfl); have cc3 := (blk_cell BR.out 3).trans (show _ = some (.slice none 0 0) from rfl); have ff0 := blk_frozen BR.out 0; have ff1 := blk_frozen BR.out 1; have ff2 := blk_frozen BR.out 2; have ff3 := blk_frozen BR.out 3; clear hb))
    clear hcut pc pcn
    clear cc0 ff0 cc1 ff1 cc2 ff2 cc3 ff3
    go_upto_region 11 with (first | ((with_reducible refine gate_dst (N := 13) rfl ?_); refine box_e 13 #[.int .i64 0, .int .i64 0, .int .u8 0, .slice none 0 0] 26 ?_; intro gp hg w7 hbox hb; have BP := Aside0.mk hbox; have HB7 := Aside0.mk hb; have GP := Aside0.mk (Nat.le_of_eq hg.symm); clear hg hbox hb; have zz0 := (blk_cell BP.out 0).trans (show _ = some (.int .i64 0) from rfl); have zz1 := (blk_cell BP.out 1).trans (show _ = some (.int .i64 0) from rfl); have zz2 := (blk_cell BP.out 2).trans (show _ = some (.int .u8 0) from rfl); have zz3 := (blk_cell BP.out 3).trans (show _ = some (.slice none 0 0) from rfl); have yy0 := blk_frozen BP.out 0; have yy1 := blk_frozen BP.out 1; have yy2 := blk_frozen BP.out 2; have yy3 := blk_frozen BP.out 3))
    generalize hW : World.setCell _ _ _ = w8
    have hbp : w8.heap[gp]? = some (.cells #[.int .i64 a, .int .i64 c, .int .u8 st, .slice A3 rs.length c3] 26 (0, 0)) := by rw [← hW]; exact blk_put (blk_put (blk_put (blk_put BP.out 0 _ rfl) 1 _ rfl) 2 _ rfl) 3 _ rfl
    have hb : Below w6.heap.size w6 w8 := by rw [← hW]; exact below_set (below_set (below_set (below_set HB7.out GP.out) GP.out) GP.out) GP.out
    replace BP := Aside0.mk hbp
    clear hbp hW HB7 GP zz0 zz1 zz2 zz3 yy0 yy1 yy2 yy3
    replace HR := Aside0.mk (Kd.R_below HR.out hb)
    replace BR := Aside0.mk (blk_below BR.out hb); replace HB := Aside0.mk (below_step HB.out hb); have cc0 := (blk_cell BR.out 0).trans (show _ = some (.int .i64 0) from rfl); have cc1 := (blk_cell BR.out 1).trans (show _ = some (.int .i64 0) from rfl); have cc2 := (blk_cell BR.out 2).trans (show _ = some (.int .u8 0) from rfl); have cc3 := (blk_cell BR.out 3).trans (show _ = some (.slice none 0 0) from rfl); have ff0 := blk_frozen BR.out 0; have ff1 := blk_frozen BR.out 1; have ff2 := blk_frozen BR.out 2; have ff3 := blk_frozen BR.out 3
    clear hb
    have dd0 := (blk_cell BP.out 0).trans (show _ = some (.int .i64 a) from rfl); have dd1 := (blk_cell BP.out 1).trans (show _ = some (.int .i64 c) from rfl); have dd2 := (blk_cell BP.out 2).trans (show _ = some (.int .u8 st) from rfl); have dd3 := (blk_cell BP.out 3).trans (show _ = some (.slice A3 rs.length c3) from rfl)
    have h := HH.out
    clear HH
    cases ba with
    | false =>
      rw [if_neg (by simp)] at h
      obtain ⟨rfl, rfl, rfl, rfl, rfl⟩ : 0 = r1 ∧ 0 = r2 ∧ 0 = r3 ∧ [] = r4 ∧ 6 = r5 := by simpa [badM] using h
      clear h
      go_wp2
      refine bodyPost_ret (results_ct rfl _ _ gr 26 #[.int .i64 0, .int .i64 0, .int .u8 0, .slice none 0 0] (0, 0) _ rfl (blk_put (blk_put (blk_put (blk_put BR.out 0 _ rfl) 1 _ rfl) 2 _ rfl) 3 _ rfl) Tryz.underlying26 rfl (by kernel_rfl)) rfl ?_
      exact ⟨_, rfl, Kd.R_nil _ _ _ _ _, below_set (below_set (below_set (below_set HB.out GR.out) GR.out) GR.out) GR.out⟩
    | true =>
      rw [if_pos rfl] at h
      cases bs with
      | false =>
        rw [if_neg (by simp)] at h
        obtain ⟨rfl, rfl, rfl, rfl, rfl⟩ : 0 = r1 ∧ 0 = r2 ∧ 0 = r3 ∧ [] = r4 ∧ 6 = r5 := by simpa [badM] using h
        clear h
        go_wp2
        refine bodyPost_ret (results_ct rfl _ _ gr 26 #[.int .i64 0, .int .i64 0, .int .u8 0, .slice none 0 0] (0, 0) _ rfl (blk_put (blk_put (blk_put (blk_put BR.out 0 _ rfl) 1 _ rfl) 2 _ rfl) 3 _ rfl) Tryz.underlying26 rfl (by kernel_rfl)) rfl ?_
        exact ⟨_, rfl, Kd.R_nil _ _ _ _ _, below_set (below_set (below_set (below_set HB.out GR.out) GR.out) GR.out) GR.out⟩
      | true =>
        rw [if_pos rfl] at h
        cases bc with
        | false =>
          rw [if_neg (by simp)] at h
          obtain ⟨rfl, rfl, rfl, rfl, rfl⟩ : 0 = r1 ∧ 0 = r2 ∧ 0 = r3 ∧ [] = r4 ∧ 6 = r5 := by simpa [badM] using h
          clear h
          go_wp2
          refine bodyPost_ret (results_ct rfl _ _ gr 26 #[.int .i64 0, .int .i64 0, .int .u8 0, .slice none 0 0] (0, 0) _ rfl (blk_put (blk_put (blk_put (blk_put BR.out 0 _ rfl) 1 _ rfl) 2 _ rfl) 3 _ rfl) Tryz.underlying26 rfl (by kernel_rfl)) rfl ?_
          exact ⟨_, rfl, Kd.R_nil _ _ _ _ _, below_set (below_set (below_set (below_set HB.out GR.out) GR.out) GR.out) GR.out⟩
        | true =>
          rw [if_pos rfl] at h
          cases br with
          | false =>
            rw [if_neg (by simp)] at h
            obtain ⟨rfl, rfl, rfl, rfl, rfl⟩ : 0 = r1 ∧ 0 = r2 ∧ 0 = r3 ∧ [] = r4 ∧ 6 = r5 := by simpa [badM] using h
            clear h
            go_wp2
            refine bodyPost_ret (results_ct rfl _ _ gr 26 #[.int .i64 0, .int .i64 0, .int .u8 0, .slice none 0 0] (0, 0) _ rfl (blk_put (blk_put (blk_put (blk_put BR.out 0 _ rfl) 1 _ rfl) 2 _ rfl) 3 _ rfl) Tryz.underlying26 rfl (by kernel_rfl)) rfl ?_
            exact ⟨_, rfl, Kd.R_nil _ _ _ _ _, below_set (below_set (below_set (below_set HB.out GR.out) GR.out) GR.out) GR.out⟩
          | true =>
            rw [if_pos rfl] at h
            obtain ⟨m, hm, h⟩ := Option.bind_eq_some_iff.mp h
            have HM := Aside0.mk hm
            clear hm
            cases m with
            | false =>
              rw [if_neg (by simp)] at h
              obtain ⟨rfl, rfl, rfl, rfl, rfl⟩ : 0 = r1 ∧ 0 = r2 ∧ 0 = r3 ∧ [] = r4 ∧ 6 = r5 := by simpa [badM] using h
              clear h
              go_wp2_with (first
                | (go_at_call 13; (with_reducible refine (maptext_May.calls k a c st A3 c3 rs false _ (Kd.R_reads' HR.out).2.2 (Kd.R_reads' HR.out).2.1 HM.out).mono ?_); rintro e w9 ⟨rfl, hb⟩; replace HR := Aside0.mk (Kd.R_below HR.out hb); replace BP := Aside0.mk (blk_below BP.out hb); clear dd0 dd1 dd2 dd3; have dd0 := (blk_cell BP.out 0).trans (show _ = some (.int .i64 a) from rfl); have dd1 := (blk_cell BP.out 1).trans (show _ = some (.int .i64 c) from rfl); have dd2 := (blk_cell BP.out 2).trans (show _ = some (.int .u8 st) from rfl); have dd3 := (blk_cell BP.out 3).trans (show _ = some (.slice A3 rs.length c3) from rfl); replace BR := Aside0.mk (blk_below BR.out hb); replace HB := Aside0.mk (below_step HB.out hb); clear cc0 cc1 cc2 cc3 ff0 ff1 ff2 ff3; have cc0 := (blk_cell BR.out 0).trans (show _ = some (.int .i64 0) from rfl); have cc1 := (blk_cell BR.out 1).trans (show _ = some (.int .i64 0) from rfl); have cc2 := (blk_cell BR.out 2).trans (show _ = some (.int .u8 0) from rfl); have cc3 := (blk_cell BR.out 3).trans (show _ = some (.slice none 0 0) from rfl); have ff0 := blk_frozen BR.out 0; have ff1 := blk_frozen BR.out 1; have ff2 := blk_frozen BR.out 2; have ff3 := blk_frozen BR.out 3; clear hb))
              refine bodyPost_ret (results_ct rfl _ _ gr 26 #[.int .i64 0, .int .i64 0, .int .u8 0, .slice none 0 0] (0, 0) _ rfl (blk_put (blk_put (blk_put (blk_put BR.out 0 _ rfl) 1 _ rfl) 2 _ rfl) 3 _ rfl) Tryz.underlying26 rfl (by kernel_rfl)) rfl ?_
              exact ⟨_, rfl, Kd.R_nil _ _ _ _ _, below_set (below_set (below_set (below_set HB.out GR.out) GR.out) GR.out) GR.out⟩
            | true =>
              rw [if_pos rfl] at h
              obtain ⟨rfl, rfl, rfl, rfl, rfl⟩ : a = r1 ∧ c = r2 ∧ st = r3 ∧ rs = r4 ∧ 0 = r5 := by simpa using h
              clear h
              go_wp2_with (first
                | (go_at_call 13; (with_reducible refine (maptext_May.calls k a c st A3 c3 rs true _ (Kd.R_reads' HR.out).2.2 (Kd.R_reads' HR.out).2.1 HM.out).mono ?_); rintro e w9 ⟨rfl, hb⟩; replace HR := Aside0.mk (Kd.R_below HR.out hb); replace BP := Aside0.mk (blk_below BP.out hb); clear dd0 dd1 dd2 dd3; have dd0 := (blk_cell BP.out 0).trans (show _ = some (.int .i64 a) from rfl); have dd1 := (blk_cell BP.out 1).trans (show _ = some (.int .i64 c) from rfl); have dd2 := (blk_cell BP.out 2).trans (show _ = some (.int .u8 st) from rfl); have dd3 := (blk_cell BP.out 3).trans (show _ = some (.slice A3 rs.length c3) from rfl); replace BR := Aside0.mk (blk_below BR.out hb); replace HB := Aside0.mk (below_step HB.out hb); clear cc0 cc1 cc2 cc3 ff0 ff1 ff2 ff3; have cc0 := (blk_cell BR.out 0).trans (show _ = some (.int .i64 0) from rfl); have cc1 := (blk_cell BR.out 1).trans (show _ = some (.int .i64 0) from rfl); have cc2 := (blk_cell BR.out 2).trans (show _ = some (.int .u8 0) from rfl); have cc3 := (blk_cell BR.out 3).trans (show _ = some (.slice none 0 0) from rfl); have ff0 := blk_frozen BR.out 0; have ff1 := blk_frozen BR.out 1; have ff2 := blk_frozen BR.out 2; have ff3 := blk_frozen BR.out 3; clear hb))
              refine bodyPost_ret (results_ct rfl _ _ gr 26 #[.int .i64 a, .int .i64 c, .int .u8 st, .slice A3 rs.length c3] (0, 0) _ rfl (blk_put (blk_put (blk_put (blk_put BR.out 0 _ rfl) 1 _ rfl) 2 _ rfl) 3 _ rfl) Tryz.underlying26 rfl (by kernel_rfl)) rfl ?_
              exact ⟨_, rfl, Kd.R_mono (Kd.R_lower (Kd.R_far (Kd.R_far (Kd.R_far (Kd.R_far HR.out (fun k hk => hk.2) _) (fun k hk => hk.2) _) (fun k hk => hk.2) _) (fun k hk => hk.2) _) HLE.out) (fun _ _ => trivial), below_set (below_set (below_set (below_set HB.out GR.out) GR.out) GR.out) GR.out⟩
end Go.Proofs.YtlcablcpcbmgeaaGreatDoor.P
