/- The walk of MapPads: it returns true, where the parts make the map that is read. No conditions beyond those that the lemma names. -/
import Derived.Test.YtlcablcpcbmgeaaGreatDoorPx0
import Derived.Test.YtlcablcpcbmgeaaGreatDoorPx6
import Derived.Test.YtlcablcpcbmgeaaGreatDoorPx9
import Derived.Test.YtlcablcpcbmgeaaGreatDoorPx21
import Derived.Test.YtlcablcpcbmgeaaGreatDoorPx22
import Derived.Test.YtlcablcpcbmgeaaGreatDoorPx23
import Derived.Test.YtlcablcpcbmgeaaGreatDoorPx41
import Derived.Test.YtlcablcpcbmgeaaGreatDoorMapC
import Derived.Test.YtlcablcpcbmgeaaGreatDoorMapV
-- names: salvorlaw16_Made.f maptext_Parse.f salvorref16_SameMap.f salvorlaw17_MapRuns.f num_Dec.f num_Hex.f
namespace Go.Proofs.YtlcablcpcbmgeaaGreatDoor.P
open Go.RowKit Go.Proofs.YtlcablcpcbmgeaaGreatDoorW.PrintWords Go.Proofs.YtlcablcpcbmgeaaGreatDoorW.PrintLast Go.Proofs.YtlcablcpcbmgeaaGreatDoorW.PrintMore
set_option linter.unusedVariables false
set_option linter.unusedSimpArgs false
def dT (q : Int) : ByteArray := (num_Dec.f q).getD ByteArray.empty
def headP (l : List Int) (pos pass : Int) : ByteArray := ((((((((bT l 1 ++ kT l 2) ++ nT l 3 pos) ++ (⟨#[32]⟩ : ByteArray)) ++ kT l 4) ++ (⟨#[45]⟩ : ByteArray)) ++ (⟨#[9]⟩ : ByteArray)) ++ dT pass) ++ kT l 5) ++ (⟨#[10]⟩ : ByteArray)
def rowP (l : List Int) (s : ByteArray) (n : Int) (r : S23) : ByteArray := (((((((s ++ bT l (n + 1)) ++ nT l (n + 2) r.f0) ++ (⟨#[9]⟩ : ByteArray)) ++ kT l (n + 3)) ++ nT l (n + 4) r.f1) ++ (⟨#[32]⟩ : ByteArray)) ++ strOfNums [r.f2]) ++ kT l (n + 5)
def rowsP (l : List Int) (s : ByteArray) (n : Int) : List S23 → ByteArray
  | [] => s
  | [r] => rowP l s n r
  | r :: q :: t => rowsP l (rowP l s n r ++ (⟨#[10]⟩ : ByteArray)) (n + 5) (q :: t)
/-- A region whose numbers are small. -/
def Sm (r : S23) : Prop := 0 ≤ r.f0 ∧ r.f0 ≤ 255 ∧ 0 ≤ r.f1 ∧ r.f1 ≤ 255
theorem rows_step (l : List Int) (s : ByteArray) (n : Int) (T : List S23) (i : Nat) (h : i < T.length) : rowsP l s n (T.drop i) = if i + 1 < T.length then rowsP l (rowP l s n (rd_T23 T (i : Int)) ++ (⟨#[10]⟩ : ByteArray)) (n + 5) (T.drop (i + 1)) else rowP l s n (rd_T23 T (i : Int)) := by
  have e : rd_T23 T (i : Int) = T[i] := by simp [rd_T23, h]
  rw [List.drop_eq_getElem_cons h, e]
  by_cases c : i + 1 < T.length
  · rw [if_pos c, List.drop_eq_getElem_cons c]; rfl
  · rw [if_neg c, List.drop_eq_nil_of_le (by omega)]; rfl
theorem sz32 : (⟨#[32]⟩ : ByteArray).size = 1 := rfl
theorem sz45 : (⟨#[45]⟩ : ByteArray).size = 1 := rfl
theorem sz9 : (⟨#[9]⟩ : ByteArray).size = 1 := rfl
theorem sz10 : (⟨#[10]⟩ : ByteArray).size = 1 := rfl
theorem ny_ {P : Program} {md : Region.Mode} {ops : Array Oper} {Q : Exit → Act → World → Prop} {S : World → Prop} {ds : List Nat} {fuel : Nat} {l : Array Bool} {a a' : Act} {w : World} (h : wpAnyLast P md ops Q S ds fuel l a' w)
    (ha : a = a' := by first | (simp only [putAll, Act.put, List.setIfInBounds_toArray, List.set_cons_zero, List.set_cons_succ]; done) | (simp only [putAll, Act.put, List.setIfInBounds_toArray, List.set_cons_zero, List.set_cons_succ]; rfl)) : wpAnyLast P md ops Q S ds fuel l a w := norm_ ha h
def pads.T3 : Bool × List (List Nat × List Nat) := (true, [([], []), ([0], [0]), ([], []), ([2], [2]), ([3], [3]), ([1, 4], [1, 4]), ([], []), ([6], [6]), ([7], [7]), ([], []), ([], []), ([9, 10], [9, 10]), ([5, 8, 11], [5, 8, 11]), ([], []), ([13, 12, 11, 0, 1, 2, 3, 4, 5, 6, 7, 8, 9, 10, 11, 12, 13], [12, 13])])
def pads.B3 : List Nat := [0, 1, 0, 4, 12, 31, 0, 64, 192, 0, 0, 1536, 4095, 0, 16383]
theorem pads.tab3 : rtab .any (opsOf Tryz.f8 3) = pads.T3 := by kernel_rfl
theorem pads.bits3 : waitsOk pads.T3.2 pads.B3 = true := by kernel_rfl
def pads.T6 : Bool × List (List Nat × List Nat) := (true, [([], []), ([], []), ([1], [1]), ([0, 2], [0, 2]), ([], []), ([4], [4]), ([], []), ([5, 6, 2], [5, 6]), ([3, 7], [3, 7]), ([8], [8]), ([], []), ([10, 7], [10]), ([9, 11], [9, 11]), ([12], [12]), ([13], [13]), ([], []), ([15], [15]), ([16, 11], [16]), ([14, 17], [14, 17]), ([], []), ([19, 17], [19]), ([18, 20], [18, 20]), ([21], [21]), ([22, 20, 0, 1, 2, 3, 4, 5, 6, 7, 8, 9, 10, 11, 12, 13, 14, 15, 16, 17, 18, 19, 20, 21, 22], [0, 22])])
def pads.B6 : List Nat := [0, 0, 2, 7, 0, 16, 0, 118, 255, 511, 0, 1270, 4095, 8191, 16383, 0, 32768, 101622, 262143, 0, 756982, 2097151, 4194303, 8388607]
theorem pads.tab6 : rtab .any (opsOf Tryz.f8 6) = pads.T6 := by kernel_rfl
theorem pads.bits6 : waitsOk pads.T6.2 pads.B6 = true := by kernel_rfl
def pads.T11 : Bool × List (List Nat × List Nat) := (true, [([], []), ([], []), ([1], [1]), ([0, 2], [0, 2]), ([], []), ([4], [4]), ([], []), ([5, 6, 2], [5, 6]), ([3, 7], [3, 7]), ([8], [8]), ([], []), ([10, 7], [10]), ([9, 11], [9, 11]), ([], []), ([13], [13]), ([], []), ([14, 15, 11], [14, 15]), ([12, 16], [12, 16]), ([17], [17]), ([], []), ([19], [19]), ([20], [20]), ([21], [21]), ([18, 22], [18, 22]), ([], []), ([24, 16], [24]), ([23, 25], [23, 25]), ([26, 25, 0, 1, 2, 3, 4, 5, 6, 7, 8, 9, 10, 11, 12, 13, 14, 15, 16, 17, 18, 19, 20, 21, 22, 23, 24, 25, 26], [0, 26])])
def pads.B11 : List Nat := [0, 0, 2, 7, 0, 16, 0, 118, 255, 511, 0, 1270, 4095, 0, 8192, 0, 60662, 131071, 262143, 0, 524288, 1572864, 3670016, 8388607, 0, 16903414, 67108863, 134217727]
theorem pads.tab11 : rtab .any (opsOf Tryz.f8 11) = pads.T11 := by kernel_rfl
theorem pads.bits11 : waitsOk pads.T11.2 pads.B11 = true := by kernel_rfl

set_option maxHeartbeats 8000000 in
set_option maxRecDepth 100000 in
theorem pads_runs (a0 a2 a3 : Int) (A1 : Option Addr) (c1 : Nat) (l1 : List S75) (A4 : Option Addr) (c4 : Nat) (l4 : List Int) (w : World) (htab : TabAt w) (h : 20 < l1.length ∨ a0 = 0) (hRuns : ∃ k, salvorlaw17_MapRuns.f k = some true) :
    Calls Tryz.prog 8 #[.int .u8 a0, .slice A1 l1.length c1, .int .u8 a2, .int .u8 a3, .slice A4 l4.length c4] w fun e w' => e = .returned (.bool true) ∧ Below w.heap.size w w' := by
  obtain ⟨kR, hRuns⟩ := hRuns
  have HT := Aside0.mk htab
  have HRU := Aside0.mk hRuns
  clear htab hRuns
  by_cases h20 : 20 < l1.length
  · clear h
    have c5b0 : decide (20 < (l1.length : Int)) = true := decide_eq_true (by omega)
    have c5b1 : decide (20 < l1.length) = true := decide_eq_true (by omega)
    have c5b2 := eq_true (show 20 < (l1.length : Int) by omega)
    go_enter Tryz.func8, Tryz.ntmps8
    go_wp2_with (first | (go_at_call 3; (with_reducible refine (salvorlaw17_MapRuns.calls kR true _ HRU.out HT.out).mono ?_); rintro e w15 ⟨rfl, hb⟩; have HB := Aside0.mk hb; clear hb))
    go_ret
    exact ⟨rfl, HB.out⟩
  · obtain rfl : a0 = 0 := h.resolve_left h20
    have c5b0 : decide (20 < (l1.length : Int)) = false := decide_eq_false (by omega)
    have c5b1 : decide (20 < l1.length) = false := decide_eq_false (by omega)
    have c5b2 := eq_false (show ¬ 20 < (l1.length : Int) by omega)
    clear h h20
    go_enter Tryz.func8, Tryz.ntmps8
    go_wp2_with (first | (go_at_call 3; (with_reducible refine (salvorlaw17_MapRuns.calls kR true _ HRU.out HT.out).mono ?_); rintro e w15 ⟨rfl, hb⟩; have HB := Aside0.mk hb; clear hb))
    go_ret
    exact ⟨rfl, HB.out⟩
set_option maxHeartbeats 8000000 in
set_option maxRecDepth 100000 in
theorem pads_walk (a0 a2 a3 : Int) (h00 : 1 ≤ a0) (h01 : a0 ≤ 255) (h20 : 0 ≤ a2) (h21 : a2 ≤ 255) (h30 : 0 ≤ a3) (h31 : a3 ≤ 255) (A1 : Option Addr) (c1 : Nat) (l1 : List S75) (A4 : Option Addr) (c4 : Nat) (l4 : List Int) (w : World) (hr1 : Kd.C k75 w A1 l1.length l1) (hc1 : l1.length ≤ c1) (hr4 : Kd.C (Kd.int .u8) w A4 l4.length l4) (hc4 : l4.length ≤ c4) (htab : TabAt w)
    (hl1 : l1.length ≤ 20) (hpad : ∀ m, 0 ≤ padN l4 m) (T : List S23) (hTl : T.length ≤ 255) (hTs : ∀ i : Nat, i < T.length → Sm (rd_T23 T i)) (hMade : ∃ k, salvorlaw16_Made.f k a0 l1 = some T)
    (hbs : ∀ m, (bT l4 m).size ≤ 8) (hks : ∀ m, (kT l4 m).size ≤ 3) (hns : ∀ m q, 0 ≤ q → q ≤ 255 → (nT l4 m q).size ≤ 30) (hds : ∀ q, 0 ≤ q → q ≤ 255 → (dT q).size ≤ 30)
    (hnum : ∀ q : Int, 0 ≤ q → q ≤ 255 → ∃ d x, num_Dec.f q = some d ∧ num_Hex.f q = some x ∧ d.size ≤ 20 ∧ x.size ≤ 20)
    (hParse : ∃ k, maptext_Parse.f k (rowsP l4 (headP l4 (a2 % (a0 + 1)) (a3 % 21)) 5 T) = some (a2 % (a0 + 1), a3 % 21, 45, T, 0)) (hSame : ∃ k, salvorref16_SameMap.f k (a2 % (a0 + 1)) (a3 % 21) 45 T (a2 % (a0 + 1)) (a3 % 21) 45 T = some true) (hRuns : ∃ k, salvorlaw17_MapRuns.f k = some true) :
    Calls Tryz.prog 8 #[.int .u8 a0, .slice A1 l1.length c1, .int .u8 a2, .int .u8 a3, .slice A4 l4.length c4] w fun e w' => e = .returned (.bool true) ∧ Below w.heap.size w w' := by
  obtain ⟨kM, hMade⟩ := hMade
  obtain ⟨kP, hParse⟩ := hParse
  obtain ⟨kS, hSame⟩ := hSame
  obtain ⟨kR, hRuns⟩ := hRuns
  have hu26 := Tryz.underlying26
  have hu23 := Tryz.underlying23
  have hw0 : wrap64 a0 = a0 := by unfold wrap64; omega
  have hw1 : wrap64 (a0 + 1) = a0 + 1 := by unfold wrap64; omega
  have hw2 : wrap64 a2 = a2 := by unfold wrap64; omega
  have hw3 : wrap64 (a3 % 21) = a3 % 21 := by unfold wrap64; omega
  have hz0 := eq_false (show ¬ a0 + 1 = 0 by omega)
  have c0b : (a0 == 0) = false := beq_eq_false_iff_ne.mpr (by omega)
  have c0 := eq_false (show ¬ a0 = 0 by omega)
  have c5b0 : decide (20 < (l1.length : Int)) = false := decide_eq_false (by omega)
  have c5b1 : decide (20 < l1.length) = false := decide_eq_false (by omega)
  obtain ⟨pos, hpos⟩ : ∃ p, p = a2 % (a0 + 1) := ⟨_, rfl⟩
  obtain ⟨pass, hpass⟩ : ∃ p, p = a3 % 21 := ⟨_, rfl⟩
  have hp0 : 0 ≤ pos := by rw [hpos]; exact Int.emod_nonneg _ (by omega)
  have hp1 : pos ≤ 255 := by rw [hpos]; have := Int.emod_lt_of_pos a2 (show 0 < a0 + 1 by omega); omega
  have hq0 : 0 ≤ pass := by omega
  have hq1 : pass ≤ 255 := by omega
  rw [← hpos, ← hpass] at hParse hSame
  have HR1 := Aside0.mk hr1
  have HC1 := Aside0.mk hc1
  have HR4 := Aside0.mk hr4
  have HC4 := Aside0.mk hc4
  have HPAD := Aside0.mk hpad
  have HT := Aside0.mk htab
  have HTL := Aside0.mk hTl
  have HTS := Aside0.mk hTs
  have HN := Aside0.mk hnum
  have HM := Aside0.mk hMade
  have HP := Aside0.mk hParse
  have HS := Aside0.mk hSame
  have HRU := Aside0.mk hRuns
  have HPOS := Aside0.mk hpos
  have HPASS := Aside0.mk hpass
  have HP0 := Aside0.mk (And.intro hp0 hp1)
  have HQ0 := Aside0.mk (And.intro hq0 hq1)
  have HB := Aside0.mk (Below.refl w.heap.size w)
  clear hr1 hc1 hr4 hc4 hpad htab hTl hTs hnum hMade hParse hSame hRuns hpos hpass hp0 hp1 hq0 hq1
  go_enter Tryz.func8, Tryz.ntmps8
  go_upto_region 3 with (fail)
  refine start_ (n := 15) (S := fun w' => True) (ds := [14]) #[false, false, false, false, false, false, false, false, false, false, false, false, false, false, false] (by kernel_rfl) rfl rfl (trivial) (fun hHeld => ?_); refine with_tabW pads.tab3 pads.bits3 (fun HT_ HW_ => ?_)
  generalize hwd : World.drew w = wd at hHeld ⊢
  have HBd : Aside0 (Below w.heap.size w wd) := ⟨by rw [← hwd]; exact below_drew1 (Below.refl _ _)⟩
  clear hwd HB
  refine pu_ 0 26 (lb_ 15 1) rfl rfl (ao_ HT_) ?_
  refine pu_ 2 28 (lb_ 15 5) rfl rfl (ao_ HT_) ?_
  refine pu_ 6 32 (lb_ 15 69) rfl rfl (ao_ HT_) ?_
  refine pu_ 9 35 (lb_ 15 581) rfl rfl (ao_ HT_) ?_
  refine pu_ 10 36 (lb_ 15 1605) rfl rfl (ao_ HT_) ?_
  refine pu_ 1 27 (lb_ 15 1607) rfl rfl (ao_ HT_) ?_
  refine pu_ 3 29 (lb_ 15 1615) rfl rfl (ao_ HT_) ?_
  refine pu_ 4 30 (lb_ 15 1631) rfl rfl (ao_ HT_) ?_
  refine pu_ 5 31 (lb_ 15 1663) rfl rfl (ao_ HT_) ?_
  refine pu_ 7 33 (lb_ 15 1791) rfl rfl (ao_ HT_) ?_
  refine pu_ 8 34 (lb_ 15 2047) rfl rfl (ao_ HT_) ?_
  have hpt : Int.tmod a2 (a0 + 1) = pos := by rw [HPOS.out]; exact Int.tmod_eq_emod_of_nonneg h20
  have hqt : wrap64 (Int.tmod a3 21) = pass := by rw [HPASS.out, Int.tmod_eq_emod_of_nonneg h30]; exact hw3
  rw [hpt, hqt]
  refine join_ (σ := Value × Nat) 1 (lb_ 15 16383) (fun s_ => [(37, s_.1), (38, .agg #[.int .i64 pos, .int .i64 pass, .int .u8 45, s_.1]), (11, .pointer (some ⟨s_.2, 0, none⟩))]) (fun s_ w' => Kd.R k23 23 w' w.heap.size (fun k => k ≠ s_.2) s_.1 T ∧ w'.heap[s_.2]? = some (.cells #[.int .i64 0, .int .i64 0, .int .u8 0, .slice none 0 0] 26 (0, 0)) ∧ Below w.heap.size w w' ∧ w.heap.size ≤ s_.2) ?_ ?_
  rotate_left
  · intro hJ
    refine two_ (i := 11) (j := 13) (Ni := some 37) (Nj := some 11) (lb_ 15 4095) (lb_ 15 10239) rfl rfl rfl rfl (two_of HT_.out (by kernel_rfl)) (by decide) (by decide) (fun K hK => ?_) (fun K hK => ?_)
    · refine gq_ Tryz.func18 (by kernel_rfl) rfl #[.int .u8 a0, .slice A1 l1.length c1] (by rfl) rfl rfl ?_
      with_reducible refine (salvorlaw16_Made.calls kM a0 A1 c1 l1 T _ (Kd.C_below HR1.out HBd.out) HC1.out HM.out).mono ?_
      rintro e w1 ⟨v0_, rfl, ho, hb⟩
      refine ⟨_, rfl, ?_⟩
      obtain ⟨At, ct, rfl⟩ := Kd.R_slice ho
      have HO := Aside0.mk (Kd.R_lower ho (HBd.out.size))
      have HB1 := Aside0.mk (below_step HBd.out hb)
      clear ho hb
      refine hK.out _ _ trivial (fun hHeld => ?_)
      clear hK K
      refine nm_ 37 ?_
      refine pu_ 12 38 (lb_ 15 8191) rfl rfl (ao_ HT_) ?_
      refine one_ (i := 13) (N := some 11) (lb_ 15 16383) rfl rfl (one_of HT_.out (by kernel_rfl)) (by decide) (fun K hK => ?_)
      refine value_ (w1 := World.alloc w1 (.cells #[.int .i64 0, .int .i64 0, .int .u8 0, .slice none 0 0] 26 (0, 0))) (v := .pointer (some ⟨w1.heap.size, 0, none⟩)) (by rfl) rfl (by first | (go_simp; done) | (go_simp; rfl)) ?_
      refine hK.out _ _ trivial (fun hHeld => ?_)
      clear hK K
      refine nm_ 11 ?_
      exact ny_ (hJ (.slice At T.length ct, w1.heap.size) _ ⟨Kd.R_alloc (Kd.R_mono (Kd.R_bound HO.out) (fun k hk => by have := hk.2.2.1; show k ≠ w1.heap.size; omega)) _, blk_new _ _, below_alloc HB1.out _, HB1.out.size⟩)
    · refine value_ (w1 := World.alloc wd (.cells #[.int .i64 0, .int .i64 0, .int .u8 0, .slice none 0 0] 26 (0, 0))) (v := .pointer (some ⟨wd.heap.size, 0, none⟩)) (by rfl) rfl (by first | (go_simp; done) | (go_simp; rfl)) ?_
      refine hK.out _ _ trivial (fun hHeld => ?_)
      clear hK K
      refine nm_ 11 ?_
      refine one_ (i := 11) (N := some 37) (lb_ 15 12287) rfl rfl (one_of HT_.out (by kernel_rfl)) (by decide) (fun K hK => ?_)
      have hbx := blk_new wd (.cells #[.int .i64 0, .int .i64 0, .int .u8 0, .slice none 0 0] 26 (0, 0))
      generalize hwx : World.alloc wd _ = wx at hbx hHeld ⊢
      have HBx : Aside0 (Below w.heap.size w wx) := ⟨by rw [← hwx]; exact below_alloc HBd.out _⟩
      have BX := Aside0.mk hbx
      clear hwx hbx
      refine gq_ Tryz.func18 (by kernel_rfl) rfl #[.int .u8 a0, .slice A1 l1.length c1] (by rfl) rfl rfl ?_
      with_reducible refine (salvorlaw16_Made.calls kM a0 A1 c1 l1 T _ (Kd.C_below HR1.out HBx.out) HC1.out HM.out).mono ?_
      rintro e w1 ⟨v0_, rfl, ho, hb⟩
      refine ⟨_, rfl, ?_⟩
      obtain ⟨At, ct, rfl⟩ := Kd.R_slice ho
      have HO := Aside0.mk (Kd.R_mono (Kd.R_lower (Kd.R_newB ho BX.out) (HBx.out.size)) (fun k hk => hk.2))
      have HB1 := Aside0.mk (below_step HBx.out hb)
      replace BX := Aside0.mk (blk_below BX.out hb)
      clear ho hb
      refine hK.out _ _ trivial (fun hHeld => ?_)
      clear hK K
      refine nm_ 37 ?_
      refine pu_ 12 38 (lb_ 15 16383) rfl rfl (ao_ HT_) ?_
      exact ny_ (hJ (.slice At T.length ct, wd.heap.size) _ ⟨HO.out, BX.out, HB1.out, HBd.out.size⟩)
  rintro ⟨v0_, gm⟩ w2 ⟨h0_, h1_, h2_, h3_⟩
  (try dsimp only at h0_); (try dsimp only at h1_); (try dsimp only at h3_)
  obtain ⟨At, ct, rfl⟩ := Kd.R_slice h0_
  have HO := Aside0.mk h0_
  have BM := Aside0.mk h1_
  have HB2 := Aside0.mk h2_
  have HGM := Aside0.mk h3_
  clear h0_ h1_ h2_ h3_
  refine norm_ (a' := ?_) ?_ ?_
  rotate_left
  · simp only [putAll, Act.put, List.setIfInBounds_toArray, List.set_cons_zero, List.set_cons_succ]
    rfl
  obtain ⟨mc0, mc1, mc2, mc3, mf0, mf1, mf2, mf3⟩ := c4_ BM
  refine last_ (i := 14) (N := none) (lb_ 15 32767) rfl rfl (one_of HT_.out (by kernel_rfl)) (by decide) (fun K hK => ?_)
  refine skip_ (w1 := ?_) (by rfl) rfl ?_ ?_
  rotate_left
  · go_simp
    rfl
  refine hK.out _ _ ?_
  clear hK K
  refine done_ (done_of HT_.out (by kernel_rfl)) ?_
  generalize hwm : World.setCell _ _ _ = wm
  have BM4 : Aside0 (wm.heap[gm]? = some (.cells #[.int .i64 pos, .int .i64 pass, .int .u8 45, .slice At T.length ct] 26 (0, 0))) := ⟨by rw [← hwm]; exact blk_put (blk_put (blk_put (blk_put BM.out 0 _ rfl) 1 _ rfl) 2 _ rfl) 3 _ rfl⟩
  have HBm : Aside0 (Below w.heap.size w wm) := ⟨by rw [← hwm]; exact below_set (below_set (below_set (below_set HB2.out HGM.out) HGM.out) HGM.out) HGM.out⟩
  have HOm : Aside0 (Kd.R k23 23 wm w.heap.size (fun k => k ≠ gm) (.slice At T.length ct) T) := ⟨by rw [← hwm]; exact Kd.R_far (Kd.R_far (Kd.R_far (Kd.R_far HO.out (fun k hk => hk) _) (fun k hk => hk) _) (fun k hk => hk) _) (fun k hk => hk) _⟩
  clear hwm HO BM HB2 HT_ HW_ hw0 hw1 hw2 hw3 hz0 c0b c0 c5b0 c5b1 hpt hqt mc0 mc1 mc2 mc3 mf0 mf1 mf2 mf3
  have HCT := Aside0.mk (Kd.R_reads' HOm.out).2.2
  have HCt := Aside0.mk (Kd.R_reads' HOm.out).2.1
  have HCP := Aside0.mk (Kd.C_below HR4.out HBm.out)
  have HTm := Aside0.mk (HT.out.below HBm.out)
  go_upto_region 5 with (first
    | ((with_reducible refine gate_dst (N := 12) rfl ?_); refine box_e 12 #[.int .i64 0] 3 ?_; intro gk hg w3 hbox hb; have BKk := Aside0.mk hbox; have HBk := Aside0.mk hb; have GK := Aside0.mk (Nat.le_of_eq hg.symm); clear hg hbox hb; have kc0 := (blk_cell BKk.out 0).trans (show _ = some (.int .i64 0) from rfl); have kf0 := blk_frozen BKk.out 0))
  generalize hwk : World.setCell _ _ _ = wk
  have HK : Aside0 (KB wm wk gk 0) := ⟨by rw [← hwk]; exact ⟨blk_put BKk.out 0 _ rfl, GK.out, below_set HBk.out GK.out⟩⟩
  clear hwk BKk HBk kc0 kf0
  have HBS := Aside0.mk hbs
  have HKS := Aside0.mk hks
  have HNS := Aside0.mk hns
  have HDS := Aside0.mk hds
  clear hbs hks hns hds
  obtain ⟨y0, hy0⟩ : ∃ y, y = bT l4 1 := ⟨_, rfl⟩
  have Hy0 := Aside0.mk hy0
  clear hy0
  obtain ⟨y43, hy43⟩ : ∃ y, y = kT l4 2 := ⟨_, rfl⟩
  have Hy43 := Aside0.mk hy43
  clear hy43
  obtain ⟨y48, hy48⟩ : ∃ y, y = nT l4 3 pos := ⟨_, rfl⟩
  have Hy48 := Aside0.mk hy48
  clear hy48
  obtain ⟨y52, hy52⟩ : ∃ y, y = kT l4 4 := ⟨_, rfl⟩
  have Hy52 := Aside0.mk hy52
  clear hy52
  obtain ⟨y58, hy58⟩ : ∃ y, y = dT pass := ⟨_, rfl⟩
  have Hy58 := Aside0.mk hy58
  clear hy58
  obtain ⟨y61, hy61⟩ : ∃ y, y = kT l4 5 := ⟨_, rfl⟩
  have Hy61 := Aside0.mk hy61
  clear hy61
  have HZ : Aside0 (y0.size ≤ 8 ∧ y43.size ≤ 3 ∧ y48.size ≤ 30 ∧ y52.size ≤ 3 ∧ y58.size ≤ 30 ∧ y61.size ≤ 3) := ⟨by rw [Hy0.out, Hy43.out, Hy48.out, Hy52.out, Hy58.out, Hy61.out]; exact ⟨HBS.out _, HKS.out _, HNS.out _ _ HP0.out.1 HP0.out.2, HKS.out _, HDS.out _ HQ0.out.1 HQ0.out.2, HKS.out _⟩⟩
  have hdec : num_Dec.f pass = some y58 := by
    obtain ⟨d, x, e1, _⟩ := HN.out pass HQ0.out.1 HQ0.out.2
    rw [Hy58.out]; unfold dT; rw [e1]; rfl
  have HDEC := Aside0.mk hdec
  have HY : Aside0 (((((((((y0 ++ y43) ++ y48) ++ (⟨#[32]⟩ : ByteArray)) ++ y52) ++ (⟨#[45]⟩ : ByteArray)) ++ (⟨#[9]⟩ : ByteArray)) ++ y58) ++ y61) ++ (⟨#[10]⟩ : ByteArray) = headP l4 pos pass) := ⟨by rw [Hy0.out, Hy43.out, Hy48.out, Hy52.out, Hy58.out, Hy61.out]; rfl⟩
  clear hdec Hy58
  go_upto_region 6 with (first
    | (go_at_call 19; (with_reducible refine (btw_at wm _ gk A4 c4 l4 0 1 (by decide) HK.out HCP.out HC4.out (by decide) (by decide) HPAD.out).mono ?_); rw [← Hy0.out]; rintro e w4 ⟨rfl, hk, hf⟩; replace HK := Aside0.mk hk; clear hk hf))
  clear Hy0
  have fq0 : y0.size + y43.size ≤ 9223372036854775807 := by have := HZ.out; omega
  have fp0 := fq0
  have fq0b := eq_true fq0; have fq0c := decide_eq_true fq0; have fq0d : (9223372036854775807 < y0.size + y43.size) = False := eq_false (Nat.not_lt.2 fq0)
  clear fp0 fq0
  have fq1 : y0.size + y43.size + y48.size ≤ 9223372036854775807 := by have := HZ.out; omega
  have fp1 : ((y0 ++ y43)).size + y48.size ≤ 9223372036854775807 := by have h_ := fq1; simpa only [ByteArray.size_append, sz32, sz45, sz9, sz10] using h_
  have fp1b := eq_true fp1; have fp1c := decide_eq_true fp1; have fp1d : (9223372036854775807 < ((y0 ++ y43)).size + y48.size) = False := eq_false (Nat.not_lt.2 fp1)
  have fq1b := eq_true fq1; have fq1c := decide_eq_true fq1; have fq1d : (9223372036854775807 < y0.size + y43.size + y48.size) = False := eq_false (Nat.not_lt.2 fq1)
  clear fp1 fq1
  have fq2 : y0.size + y43.size + y48.size + 1 ≤ 9223372036854775807 := by have := HZ.out; omega
  have fp2 : (((y0 ++ y43) ++ y48)).size + 1 ≤ 9223372036854775807 := by have h_ := fq2; simpa only [ByteArray.size_append, sz32, sz45, sz9, sz10] using h_
  have fp2b := eq_true fp2; have fp2c := decide_eq_true fp2; have fp2d : (9223372036854775807 < (((y0 ++ y43) ++ y48)).size + 1) = False := eq_false (Nat.not_lt.2 fp2)
  have fq2b := eq_true fq2; have fq2c := decide_eq_true fq2; have fq2d : (9223372036854775807 < y0.size + y43.size + y48.size + 1) = False := eq_false (Nat.not_lt.2 fq2)
  clear fp2 fq2
  have fq3 : y0.size + y43.size + y48.size + 1 + y52.size ≤ 9223372036854775807 := by have := HZ.out; omega
  have fp3 : ((((y0 ++ y43) ++ y48) ++ (⟨#[32]⟩ : ByteArray))).size + y52.size ≤ 9223372036854775807 := by have h_ := fq3; simpa only [ByteArray.size_append, sz32, sz45, sz9, sz10] using h_
  have fp3b := eq_true fp3; have fp3c := decide_eq_true fp3; have fp3d : (9223372036854775807 < ((((y0 ++ y43) ++ y48) ++ (⟨#[32]⟩ : ByteArray))).size + y52.size) = False := eq_false (Nat.not_lt.2 fp3)
  have fq3b := eq_true fq3; have fq3c := decide_eq_true fq3; have fq3d : (9223372036854775807 < y0.size + y43.size + y48.size + 1 + y52.size) = False := eq_false (Nat.not_lt.2 fq3)
  clear fp3 fq3
  have fq4 : y0.size + y43.size + y48.size + 1 + y52.size + 1 ≤ 9223372036854775807 := by have := HZ.out; omega
  have fp4 : (((((y0 ++ y43) ++ y48) ++ (⟨#[32]⟩ : ByteArray)) ++ y52)).size + 1 ≤ 9223372036854775807 := by have h_ := fq4; simpa only [ByteArray.size_append, sz32, sz45, sz9, sz10] using h_
  have fp4b := eq_true fp4; have fp4c := decide_eq_true fp4; have fp4d : (9223372036854775807 < (((((y0 ++ y43) ++ y48) ++ (⟨#[32]⟩ : ByteArray)) ++ y52)).size + 1) = False := eq_false (Nat.not_lt.2 fp4)
  have fq4b := eq_true fq4; have fq4c := decide_eq_true fq4; have fq4d : (9223372036854775807 < y0.size + y43.size + y48.size + 1 + y52.size + 1) = False := eq_false (Nat.not_lt.2 fq4)
  clear fp4 fq4
  have fq5 : y0.size + y43.size + y48.size + 1 + y52.size + 1 + 1 ≤ 9223372036854775807 := by have := HZ.out; omega
  have fp5 : ((((((y0 ++ y43) ++ y48) ++ (⟨#[32]⟩ : ByteArray)) ++ y52) ++ (⟨#[45]⟩ : ByteArray))).size + 1 ≤ 9223372036854775807 := by have h_ := fq5; simpa only [ByteArray.size_append, sz32, sz45, sz9, sz10] using h_
  have fp5b := eq_true fp5; have fp5c := decide_eq_true fp5; have fp5d : (9223372036854775807 < ((((((y0 ++ y43) ++ y48) ++ (⟨#[32]⟩ : ByteArray)) ++ y52) ++ (⟨#[45]⟩ : ByteArray))).size + 1) = False := eq_false (Nat.not_lt.2 fp5)
  have fq5b := eq_true fq5; have fq5c := decide_eq_true fq5; have fq5d : (9223372036854775807 < y0.size + y43.size + y48.size + 1 + y52.size + 1 + 1) = False := eq_false (Nat.not_lt.2 fq5)
  clear fp5 fq5
  have fq6 : y0.size + y43.size + y48.size + 1 + y52.size + 1 + 1 + y58.size ≤ 9223372036854775807 := by have := HZ.out; omega
  have fp6 : (((((((y0 ++ y43) ++ y48) ++ (⟨#[32]⟩ : ByteArray)) ++ y52) ++ (⟨#[45]⟩ : ByteArray)) ++ (⟨#[9]⟩ : ByteArray))).size + y58.size ≤ 9223372036854775807 := by have h_ := fq6; simpa only [ByteArray.size_append, sz32, sz45, sz9, sz10] using h_
  have fp6b := eq_true fp6; have fp6c := decide_eq_true fp6; have fp6d : (9223372036854775807 < (((((((y0 ++ y43) ++ y48) ++ (⟨#[32]⟩ : ByteArray)) ++ y52) ++ (⟨#[45]⟩ : ByteArray)) ++ (⟨#[9]⟩ : ByteArray))).size + y58.size) = False := eq_false (Nat.not_lt.2 fp6)
  have fq6b := eq_true fq6; have fq6c := decide_eq_true fq6; have fq6d : (9223372036854775807 < y0.size + y43.size + y48.size + 1 + y52.size + 1 + 1 + y58.size) = False := eq_false (Nat.not_lt.2 fq6)
  clear fp6 fq6
  have fq7 : y0.size + y43.size + y48.size + 1 + y52.size + 1 + 1 + y58.size + y61.size ≤ 9223372036854775807 := by have := HZ.out; omega
  have fp7 : ((((((((y0 ++ y43) ++ y48) ++ (⟨#[32]⟩ : ByteArray)) ++ y52) ++ (⟨#[45]⟩ : ByteArray)) ++ (⟨#[9]⟩ : ByteArray)) ++ y58)).size + y61.size ≤ 9223372036854775807 := by have h_ := fq7; simpa only [ByteArray.size_append, sz32, sz45, sz9, sz10] using h_
  have fp7b := eq_true fp7; have fp7c := decide_eq_true fp7; have fp7d : (9223372036854775807 < ((((((((y0 ++ y43) ++ y48) ++ (⟨#[32]⟩ : ByteArray)) ++ y52) ++ (⟨#[45]⟩ : ByteArray)) ++ (⟨#[9]⟩ : ByteArray)) ++ y58)).size + y61.size) = False := eq_false (Nat.not_lt.2 fp7)
  have fq7b := eq_true fq7; have fq7c := decide_eq_true fq7; have fq7d : (9223372036854775807 < y0.size + y43.size + y48.size + 1 + y52.size + 1 + 1 + y58.size + y61.size) = False := eq_false (Nat.not_lt.2 fq7)
  clear fp7 fq7
  have fq8 : y0.size + y43.size + y48.size + 1 + y52.size + 1 + 1 + y58.size + y61.size + 1 ≤ 9223372036854775807 := by have := HZ.out; omega
  have fp8 : (((((((((y0 ++ y43) ++ y48) ++ (⟨#[32]⟩ : ByteArray)) ++ y52) ++ (⟨#[45]⟩ : ByteArray)) ++ (⟨#[9]⟩ : ByteArray)) ++ y58) ++ y61)).size + 1 ≤ 9223372036854775807 := by have h_ := fq8; simpa only [ByteArray.size_append, sz32, sz45, sz9, sz10] using h_
  have fp8b := eq_true fp8; have fp8c := decide_eq_true fp8; have fp8d : (9223372036854775807 < (((((((((y0 ++ y43) ++ y48) ++ (⟨#[32]⟩ : ByteArray)) ++ y52) ++ (⟨#[45]⟩ : ByteArray)) ++ (⟨#[9]⟩ : ByteArray)) ++ y58) ++ y61)).size + 1) = False := eq_false (Nat.not_lt.2 fp8)
  have fq8b := eq_true fq8; have fq8c := decide_eq_true fq8; have fq8d : (9223372036854775807 < y0.size + y43.size + y48.size + 1 + y52.size + 1 + 1 + y58.size + y61.size + 1) = False := eq_false (Nat.not_lt.2 fq8)
  clear fp8 fq8
  replace HK := Aside0.mk HK.out.drew
  refine start_ (n := 24) (S := fun w' => w'.cell? ⟨gm, 0, none⟩ = some (.int .i64 pos) ∧ w'.cell? ⟨gm, 1, none⟩ = some (.int .i64 pass) ∧ w'.cell? ⟨gm, 2, none⟩ = some (.int .u8 45) ∧ w'.cell? ⟨gm, 3, none⟩ = some (.slice At T.length ct)) (ds := []) #[false, false, false, false, false, false, false, false, false, false, false, false, false, false, false, false, false, false, false, false, false, false, false, false] (by kernel_rfl) rfl rfl (k4_ ⟨blk_below BM4.out HK.out.2.2⟩) (fun hHeld => ?_); refine with_tabW pads.tab6 pads.bits6 (fun HT_ HW_ => ?_)
  generalize World.drew w4 = w5 at HK hHeld ⊢
  refine pu_ 0 41 (lb_ 24 1) rfl rfl (ao_ HT_) ?_
  refine pu_ 1 42 (lb_ 24 3) rfl rfl (ao_ HT_) ?_
  refine pu_ 4 45 (lb_ 24 19) rfl rfl (ao_ HT_) ?_
  refine pu_ 6 47 (lb_ 24 83) rfl rfl (ao_ HT_) ?_
  refine pu_ 10 51 (lb_ 24 1107) rfl rfl (ao_ HT_) ?_
  refine pu_ 15 56 (lb_ 24 33875) rfl rfl (ao_ HT_) ?_
  refine pu_ 19 60 (lb_ 24 558163) rfl rfl (ao_ HT_) ?_
  refine tk_ 5 46 (lb_ 24 558195) rfl rfl (take_ofW HT_.out HW_.out (by kernel_rfl)) hHeld ?_
  refine tk_ 16 57 (lb_ 24 623731) rfl rfl (take_ofW HT_.out HW_.out (by kernel_rfl)) hHeld ?_
  refine one_ (i := 2) (N := some 43) (lb_ 24 623735) rfl rfl (one_of HT_.out (by kernel_rfl)) (by decide) (fun K hK => ?_)
  refine gq_ Tryz.func20 (by kernel_rfl) rfl #[.slice A4 l4.length c4, .pointer (some ⟨gk, 0, none⟩)] (by rfl) rfl rfl ?_
  with_reducible refine (blk_at wm _ gk A4 c4 l4 1 2 (by decide) HK.out HCP.out HC4.out (by decide) (by decide) HPAD.out).mono ?_
  rw [← Hy43.out]
  rintro e w6 ⟨rfl, hk, hf⟩
  refine ⟨_, rfl, ?_⟩
  replace HK := Aside0.mk hk
  clear hk hf
  refine hK.out _ _ (k4_ ⟨blk_below BM4.out HK.out.2.2⟩) (fun hHeld => ?_)
  clear hK K
  refine nm_ 43 ?_
  refine pu_ 3 44 (lb_ 24 623743) rfl rfl (ao_ HT_) ?_
  refine one_ (i := 7) (N := some 48) (lb_ 24 623871) rfl rfl (one_of HT_.out (by kernel_rfl)) (by decide) (fun K hK => ?_)
  refine gq_ Tryz.func21 (by kernel_rfl) rfl #[.int .i64 pos, .slice A4 l4.length c4, .pointer (some ⟨gk, 0, none⟩)] (by rfl) rfl rfl ?_
  with_reducible refine (number_at pos (HN.out pos HP0.out.1 HP0.out.2) wm _ gk A4 c4 l4 2 3 (by decide) HK.out HTm.out HCP.out HC4.out (by decide) (by decide) HPAD.out).mono ?_
  rw [← Hy48.out]
  rintro e w6 ⟨rfl, hk, hf⟩
  refine ⟨_, rfl, ?_⟩
  replace HK := Aside0.mk hk
  clear hk hf
  refine hK.out _ _ (k4_ ⟨blk_below BM4.out HK.out.2.2⟩) (fun hHeld => ?_)
  clear hK K
  refine nm_ 48 ?_
  refine pu_ 8 49 (lb_ 24 624127) rfl rfl (ao_ HT_) ?_
  refine pu_ 9 50 (lb_ 24 624639) rfl rfl (ao_ HT_) ?_
  refine one_ (i := 11) (N := some 52) (lb_ 24 626687) rfl rfl (one_of HT_.out (by kernel_rfl)) (by decide) (fun K hK => ?_)
  refine gq_ Tryz.func20 (by kernel_rfl) rfl #[.slice A4 l4.length c4, .pointer (some ⟨gk, 0, none⟩)] (by rfl) rfl rfl ?_
  with_reducible refine (blk_at wm _ gk A4 c4 l4 3 4 (by decide) HK.out HCP.out HC4.out (by decide) (by decide) HPAD.out).mono ?_
  rw [← Hy52.out]
  rintro e w6 ⟨rfl, hk, hf⟩
  refine ⟨_, rfl, ?_⟩
  replace HK := Aside0.mk hk
  clear hk hf
  refine hK.out _ _ (k4_ ⟨blk_below BM4.out HK.out.2.2⟩) (fun hHeld => ?_)
  clear hK K
  refine nm_ 52 ?_
  refine pu_ 12 53 (lb_ 24 630783) rfl rfl (ao_ HT_) ?_
  refine pu_ 13 54 (lb_ 24 638975) rfl rfl (ao_ HT_) ?_
  refine pu_ 14 55 (lb_ 24 655359) rfl rfl (ao_ HT_) ?_
  refine one_ (i := 17) (N := some 58) (lb_ 24 786431) rfl rfl (one_of HT_.out (by kernel_rfl)) (by decide) (fun K hK => ?_)
  refine gq_ Tryz.func22 (by kernel_rfl) rfl #[.int .i64 pass] (by rfl) rfl rfl ?_
  with_reducible refine (num_Dec.calls pass y58 _ HDEC.out (HTm.out.below HK.out.b)).mono ?_
  rintro e w6 ⟨rfl, hb⟩
  refine ⟨_, rfl, ?_⟩
  replace HK := Aside0.mk (HK.out.bel hb)
  clear hb
  refine hK.out _ _ (k4_ ⟨blk_below BM4.out HK.out.2.2⟩) (fun hHeld => ?_)
  clear hK K
  refine nm_ 58 ?_
  refine pu_ 18 59 (lb_ 24 1048575) rfl rfl (ao_ HT_) ?_
  refine one_ (i := 20) (N := some 61) (lb_ 24 2097151) rfl rfl (one_of HT_.out (by kernel_rfl)) (by decide) (fun K hK => ?_)
  refine gq_ Tryz.func20 (by kernel_rfl) rfl #[.slice A4 l4.length c4, .pointer (some ⟨gk, 0, none⟩)] (by rfl) rfl rfl ?_
  with_reducible refine (blk_at wm _ gk A4 c4 l4 4 5 (by decide) HK.out HCP.out HC4.out (by decide) (by decide) HPAD.out).mono ?_
  rw [← Hy61.out]
  rintro e w6 ⟨rfl, hk, hf⟩
  refine ⟨_, rfl, ?_⟩
  replace HK := Aside0.mk hk
  clear hk hf
  refine hK.out _ _ (k4_ ⟨blk_below BM4.out HK.out.2.2⟩) (fun hHeld => ?_)
  clear hK K
  refine nm_ 61 ?_
  refine pu_ 21 62 (lb_ 24 4194303) rfl rfl (ao_ HT_) ?_
  refine pu_ 22 63 (lb_ 24 8388607) rfl rfl (ao_ HT_) ?_
  refine pu_ 23 13 (lb_ 24 16777215) rfl rfl (ao_ HT_) ?_
  refine done_ (done_of HT_.out (by kernel_rfl)) ?_
  clear fq0b fq0c fq0d fp1b fp1c fp1d fq1b fq1c fq1d fp2b fp2c fp2d fq2b fq2c fq2d fp3b fp3c fp3d fq3b fq3c fq3d fp4b fp4c fp4d fq4b fq4c fq4d fp5b fp5c fp5d fq5b fq5c fq5d fp6b fp6c fp6d fq6b fq6c fq6d fp7b fp7c fp7d fq7b fq7c fq7d fp8b fp8c fp8d fq8b fq8c fq8d
  rw [HY.out]
  have HS0 : Aside0 ((headP l4 pos pass).size ≤ 200) := ⟨by rw [← HY.out]; simp only [ByteArray.size_append, sz32, sz45, sz9, sz10]; have := HZ.out; omega⟩
  clear HY HZ HDEC Hy43 Hy48 Hy52 Hy61 HT_ HW_ hHeld
  generalize hs00 : headP l4 pos pass = s00
  have HS00 := Aside0.mk hs00
  rw [hs00] at HS0
  clear hs00
  go_wp2
  go_loopw [13, 14] (fun vs vi wr => ∃ (i : Nat) (s : ByteArray), i ≤ T.length ∧ vi = .int .i64 i ∧ vs = .string s ∧ Aside0 (rowsP l4 s (5 + 5 * (i : Int)) (T.drop i) = rowsP l4 s00 5 T) ∧ Aside0 (s.size ≤ 200 + 100 * i) ∧ Aside0 (KB wm wr gk (5 + 5 * (i : Int)))) (fun _ vi _ => T.length - (intOf vi).toNat)
  case atStart => exact ⟨0, s00, Nat.zero_le _, rfl, rfl, ⟨rfl⟩, HS0, HK⟩
  case round =>
    clear HK HS0
    obtain ⟨i, s, hi, rfl, rfl, HE, HSs, HK⟩ := hrel
    obtain ⟨mc0, mc1, mc2, mc3, mf0, mf1, mf2, mf3⟩ := c4_ ⟨blk_below BM4.out HK.out.b⟩
    by_cases hlt : i < T.length
    · obtain ⟨ad, ead, hx0, hx1, hx2⟩ := at_T23 HCT.out (i : Int) (by omega) (by omega)
      cases ead
      replace hx0 := (HK.out.b.cell (World.block_lt_of_cell? wm _ hx0)).trans hx0
      replace hx1 := (HK.out.b.cell (World.block_lt_of_cell? wm _ hx1)).trans hx1
      replace hx2 := (HK.out.b.cell (World.block_lt_of_cell? wm _ hx2)).trans hx2
      have q1 := eq_true (show (0 : Int) ≤ (i : Int) by omega)
      have q2 := eq_true (show (i : Int) < (T.length : Int) by omega)
      have q3 : decide ((i : Int) < (T.length : Int)) = true := decide_eq_true (by omega)
      have q4 := eq_true hlt
      rw [Int.toNat_natCast] at hx0 hx1 hx2
      have hsm := HTS.out i hlt
      obtain ⟨r, hr⟩ : ∃ r, r = rd_T23 T (i : Int) := ⟨_, rfl⟩
      have Hr := Aside0.mk hr
      rw [← hr] at hx0 hx1 hx2 hsm
      have HSM := Aside0.mk (show 0 ≤ r.f0 ∧ r.f0 ≤ 255 ∧ 0 ≤ r.f1 ∧ r.f1 ≤ 255 from hsm)
      have HLT := Aside0.mk hlt
      clear hr hsm hlt
      obtain ⟨n, hn⟩ : ∃ n, n = 5 + 5 * (i : Int) := ⟨_, rfl⟩
      rw [← hn] at HE HK
      have HNn : Aside0 (0 ≤ n ∧ n ≤ 2000) := ⟨by have := HTL.out; omega⟩
      have Hn := Aside0.mk hn
      clear hn
      go_upto_region 11 with (first
        | ((with_reducible refine gate_dst (N := 15) rfl ?_); refine box_e 15 #[.int .i64 0, .int .i64 0, .int .u8 0] 23 ?_; intro gr hg w7 hbox hb; have BR0 := Aside0.mk hbox; have NE : gr ≠ gk := (by have := blk_lt HK.out.1; omega); have GR := Aside0.mk (show wm.heap.size ≤ gr from by rw [hg]; exact HK.out.b.size); replace HK := Aside0.mk (HK.out.bel hb); clear hg hbox hb; obtain ⟨rc0, rc1, rc2, rf0, rf1, rf2⟩ := c3_ BR0))
      generalize hwr : World.setCell _ _ _ = w8
      have BR : Aside0 (w8.heap[gr]? = some (.cells #[.int .i64 r.f0, .int .i64 r.f1, .int .u8 r.f2] 23 (0, 0))) := ⟨by rw [← hwr]; exact blk_put (blk_put (blk_put BR0.out 0 _ rfl) 1 _ rfl) 2 _ rfl⟩
      replace HK : Aside0 (KB wm w8 gk n) := ⟨by rw [← hwr]; exact ((HK.out.far GR.out NE.symm 0 _).far GR.out NE.symm 1 _).far GR.out NE.symm 2 _⟩
      clear hwr BR0 rc0 rc1 rc2 rf0 rf1 rf2 hx0 hx1 hx2 mc0 mc1 mc2 mc3 mf0 mf1 mf2 mf3
      obtain ⟨yB, hyB⟩ : ∃ y, y = bT l4 (n + 1) := ⟨_, rfl⟩
      have HyB := Aside0.mk hyB
      clear hyB
      obtain ⟨y1, hy1⟩ : ∃ y, y = nT l4 (n + 2) r.f0 := ⟨_, rfl⟩
      have Hy1 := Aside0.mk hy1
      clear hy1
      obtain ⟨y3, hy3⟩ : ∃ y, y = kT l4 (n + 3) := ⟨_, rfl⟩
      have Hy3 := Aside0.mk hy3
      clear hy3
      obtain ⟨y2, hy2⟩ : ∃ y, y = nT l4 (n + 4) r.f1 := ⟨_, rfl⟩
      have Hy2 := Aside0.mk hy2
      clear hy2
      obtain ⟨y5, hy5⟩ : ∃ y, y = kT l4 (n + 5) := ⟨_, rfl⟩
      have Hy5 := Aside0.mk hy5
      clear hy5
      have HZ2 : Aside0 (s.size ≤ 30000 ∧ yB.size ≤ 8 ∧ y1.size ≤ 30 ∧ y3.size ≤ 3 ∧ y2.size ≤ 30 ∧ (strOfNums [r.f2]).size ≤ 1 ∧ y5.size ≤ 3) := ⟨by rw [HyB.out, Hy1.out, Hy3.out, Hy2.out, Hy5.out]; exact ⟨by have := HSs.out; have := HTL.out; omega, HBS.out _, HNS.out _ _ HSM.out.1 HSM.out.2.1, HKS.out _, HNS.out _ _ HSM.out.2.2.1 HSM.out.2.2.2, Nat.le_refl _, HKS.out _⟩⟩
      have HYr : Aside0 (((((((((s ++ yB) ++ y1) ++ (⟨#[9]⟩ : ByteArray)) ++ y3) ++ y2) ++ (⟨#[32]⟩ : ByteArray)) ++ strOfNums [r.f2]) ++ y5) = rowP l4 s n r) := ⟨by rw [HyB.out, Hy1.out, Hy3.out, Hy2.out, Hy5.out]; rfl⟩
      have gq0 : s.size + yB.size ≤ 9223372036854775807 := by have := HZ2.out; omega
      have gp0 := gq0
      have gq0b := eq_true gq0; have gq0c := decide_eq_true gq0; have gq0d : (9223372036854775807 < s.size + yB.size) = False := eq_false (Nat.not_lt.2 gq0)
      clear gp0 gq0
      have gq1 : s.size + yB.size + y1.size ≤ 9223372036854775807 := by have := HZ2.out; omega
      have gp1 : ((s ++ yB)).size + y1.size ≤ 9223372036854775807 := by have h_ := gq1; simpa only [ByteArray.size_append, sz32, sz45, sz9, sz10] using h_
      have gp1b := eq_true gp1; have gp1c := decide_eq_true gp1; have gp1d : (9223372036854775807 < ((s ++ yB)).size + y1.size) = False := eq_false (Nat.not_lt.2 gp1)
      have gq1b := eq_true gq1; have gq1c := decide_eq_true gq1; have gq1d : (9223372036854775807 < s.size + yB.size + y1.size) = False := eq_false (Nat.not_lt.2 gq1)
      clear gp1 gq1
      have gq2 : s.size + yB.size + y1.size + 1 ≤ 9223372036854775807 := by have := HZ2.out; omega
      have gp2 : (((s ++ yB) ++ y1)).size + 1 ≤ 9223372036854775807 := by have h_ := gq2; simpa only [ByteArray.size_append, sz32, sz45, sz9, sz10] using h_
      have gp2b := eq_true gp2; have gp2c := decide_eq_true gp2; have gp2d : (9223372036854775807 < (((s ++ yB) ++ y1)).size + 1) = False := eq_false (Nat.not_lt.2 gp2)
      have gq2b := eq_true gq2; have gq2c := decide_eq_true gq2; have gq2d : (9223372036854775807 < s.size + yB.size + y1.size + 1) = False := eq_false (Nat.not_lt.2 gq2)
      clear gp2 gq2
      have gq3 : s.size + yB.size + y1.size + 1 + y3.size ≤ 9223372036854775807 := by have := HZ2.out; omega
      have gp3 : ((((s ++ yB) ++ y1) ++ (⟨#[9]⟩ : ByteArray))).size + y3.size ≤ 9223372036854775807 := by have h_ := gq3; simpa only [ByteArray.size_append, sz32, sz45, sz9, sz10] using h_
      have gp3b := eq_true gp3; have gp3c := decide_eq_true gp3; have gp3d : (9223372036854775807 < ((((s ++ yB) ++ y1) ++ (⟨#[9]⟩ : ByteArray))).size + y3.size) = False := eq_false (Nat.not_lt.2 gp3)
      have gq3b := eq_true gq3; have gq3c := decide_eq_true gq3; have gq3d : (9223372036854775807 < s.size + yB.size + y1.size + 1 + y3.size) = False := eq_false (Nat.not_lt.2 gq3)
      clear gp3 gq3
      have gq4 : s.size + yB.size + y1.size + 1 + y3.size + y2.size ≤ 9223372036854775807 := by have := HZ2.out; omega
      have gp4 : (((((s ++ yB) ++ y1) ++ (⟨#[9]⟩ : ByteArray)) ++ y3)).size + y2.size ≤ 9223372036854775807 := by have h_ := gq4; simpa only [ByteArray.size_append, sz32, sz45, sz9, sz10] using h_
      have gp4b := eq_true gp4; have gp4c := decide_eq_true gp4; have gp4d : (9223372036854775807 < (((((s ++ yB) ++ y1) ++ (⟨#[9]⟩ : ByteArray)) ++ y3)).size + y2.size) = False := eq_false (Nat.not_lt.2 gp4)
      have gq4b := eq_true gq4; have gq4c := decide_eq_true gq4; have gq4d : (9223372036854775807 < s.size + yB.size + y1.size + 1 + y3.size + y2.size) = False := eq_false (Nat.not_lt.2 gq4)
      clear gp4 gq4
      have gq5 : s.size + yB.size + y1.size + 1 + y3.size + y2.size + 1 ≤ 9223372036854775807 := by have := HZ2.out; omega
      have gp5 : ((((((s ++ yB) ++ y1) ++ (⟨#[9]⟩ : ByteArray)) ++ y3) ++ y2)).size + 1 ≤ 9223372036854775807 := by have h_ := gq5; simpa only [ByteArray.size_append, sz32, sz45, sz9, sz10] using h_
      have gp5b := eq_true gp5; have gp5c := decide_eq_true gp5; have gp5d : (9223372036854775807 < ((((((s ++ yB) ++ y1) ++ (⟨#[9]⟩ : ByteArray)) ++ y3) ++ y2)).size + 1) = False := eq_false (Nat.not_lt.2 gp5)
      have gq5b := eq_true gq5; have gq5c := decide_eq_true gq5; have gq5d : (9223372036854775807 < s.size + yB.size + y1.size + 1 + y3.size + y2.size + 1) = False := eq_false (Nat.not_lt.2 gq5)
      clear gp5 gq5
      have gq6 : s.size + yB.size + y1.size + 1 + y3.size + y2.size + 1 + (strOfNums [r.f2]).size ≤ 9223372036854775807 := by have := HZ2.out; omega
      have gp6 : (((((((s ++ yB) ++ y1) ++ (⟨#[9]⟩ : ByteArray)) ++ y3) ++ y2) ++ (⟨#[32]⟩ : ByteArray))).size + (strOfNums [r.f2]).size ≤ 9223372036854775807 := by have h_ := gq6; simpa only [ByteArray.size_append, sz32, sz45, sz9, sz10] using h_
      have gp6b := eq_true gp6; have gp6c := decide_eq_true gp6; have gp6d : (9223372036854775807 < (((((((s ++ yB) ++ y1) ++ (⟨#[9]⟩ : ByteArray)) ++ y3) ++ y2) ++ (⟨#[32]⟩ : ByteArray))).size + (strOfNums [r.f2]).size) = False := eq_false (Nat.not_lt.2 gp6)
      have gq6b := eq_true gq6; have gq6c := decide_eq_true gq6; have gq6d : (9223372036854775807 < s.size + yB.size + y1.size + 1 + y3.size + y2.size + 1 + (strOfNums [r.f2]).size) = False := eq_false (Nat.not_lt.2 gq6)
      clear gp6 gq6
      have gq7 : s.size + yB.size + y1.size + 1 + y3.size + y2.size + 1 + (strOfNums [r.f2]).size + y5.size ≤ 9223372036854775807 := by have := HZ2.out; omega
      have gp7 : ((((((((s ++ yB) ++ y1) ++ (⟨#[9]⟩ : ByteArray)) ++ y3) ++ y2) ++ (⟨#[32]⟩ : ByteArray)) ++ (strOfNums [r.f2]))).size + y5.size ≤ 9223372036854775807 := by have h_ := gq7; simpa only [ByteArray.size_append, sz32, sz45, sz9, sz10] using h_
      have gp7b := eq_true gp7; have gp7c := decide_eq_true gp7; have gp7d : (9223372036854775807 < ((((((((s ++ yB) ++ y1) ++ (⟨#[9]⟩ : ByteArray)) ++ y3) ++ y2) ++ (⟨#[32]⟩ : ByteArray)) ++ (strOfNums [r.f2]))).size + y5.size) = False := eq_false (Nat.not_lt.2 gp7)
      have gq7b := eq_true gq7; have gq7c := decide_eq_true gq7; have gq7d : (9223372036854775807 < s.size + yB.size + y1.size + 1 + y3.size + y2.size + 1 + (strOfNums [r.f2]).size + y5.size) = False := eq_false (Nat.not_lt.2 gq7)
      clear gp7 gq7
      replace HK := Aside0.mk HK.out.drew
      replace BR := Aside0.mk (blk_drew BR.out)
      refine start_ (n := 28) (S := fun w' => w'.cell? ⟨gr, 0, none⟩ = some (.int .i64 r.f0) ∧ w'.cell? ⟨gr, 1, none⟩ = some (.int .i64 r.f1) ∧ w'.cell? ⟨gr, 2, none⟩ = some (.int .u8 r.f2)) (ds := []) #[false, false, false, false, false, false, false, false, false, false, false, false, false, false, false, false, false, false, false, false, false, false, false, false, false, false, false, false] (by kernel_rfl) rfl rfl (k3_ BR) (fun hHeld => ?_); refine with_tabW pads.tab11 pads.bits11 (fun HT_ HW_ => ?_)
      generalize World.drew w8 = w9 at HK BR hHeld ⊢
      refine pu_ 0 76 (lb_ 28 1) rfl rfl (ao_ HT_) ?_
      refine pu_ 1 77 (lb_ 28 3) rfl rfl (ao_ HT_) ?_
      refine pu_ 4 80 (lb_ 28 19) rfl rfl (ao_ HT_) ?_
      refine pu_ 6 82 (lb_ 28 83) rfl rfl (ao_ HT_) ?_
      refine pu_ 10 86 (lb_ 28 1107) rfl rfl (ao_ HT_) ?_
      refine pu_ 13 89 (lb_ 28 9299) rfl rfl (ao_ HT_) ?_
      refine pu_ 15 91 (lb_ 28 42067) rfl rfl (ao_ HT_) ?_
      refine pu_ 19 95 (lb_ 28 566355) rfl rfl (ao_ HT_) ?_
      refine pu_ 24 100 (lb_ 28 17343571) rfl rfl (ao_ HT_) ?_
      refine tk_ 5 81 (lb_ 28 17343603) rfl rfl (take_ofW HT_.out HW_.out (by kernel_rfl)) hHeld ?_
      refine tk_ 14 90 (lb_ 28 17359987) rfl rfl (take_ofW HT_.out HW_.out (by kernel_rfl)) hHeld ?_
      refine tk_ 20 96 (lb_ 28 18408563) rfl rfl (take_ofW HT_.out HW_.out (by kernel_rfl)) hHeld ?_
      replace HK : Aside0 (KB wm w9 gk (n + 0)) := ⟨by rw [Int.add_zero]; exact HK.out⟩
      refine join_ (σ := Value) 1 (lb_ 28 134217727) (fun s_ => [(78, .string yB), (83, .string y1), (87, .string y3), (92, .string y2), (101, .string y5), (97, s_), (98, .string (strOfNums [r.f2])), (79, .string (s ++ yB)), (84, .string ((s ++ yB) ++ y1)), (85, .string (((s ++ yB) ++ y1) ++ (⟨#[9]⟩ : ByteArray))), (88, .string ((((s ++ yB) ++ y1) ++ (⟨#[9]⟩ : ByteArray)) ++ y3)), (93, .string (((((s ++ yB) ++ y1) ++ (⟨#[9]⟩ : ByteArray)) ++ y3) ++ y2)), (94, .string ((((((s ++ yB) ++ y1) ++ (⟨#[9]⟩ : ByteArray)) ++ y3) ++ y2) ++ (⟨#[32]⟩ : ByteArray))), (99, .string (((((((s ++ yB) ++ y1) ++ (⟨#[9]⟩ : ByteArray)) ++ y3) ++ y2) ++ (⟨#[32]⟩ : ByteArray)) ++ (strOfNums [r.f2]))), (102, .string ((((((((s ++ yB) ++ y1) ++ (⟨#[9]⟩ : ByteArray)) ++ y3) ++ y2) ++ (⟨#[32]⟩ : ByteArray)) ++ (strOfNums [r.f2])) ++ y5))]) (fun s_ w' => (w'.cell? ⟨gr, 0, none⟩ = some (.int .i64 r.f0) ∧ w'.cell? ⟨gr, 1, none⟩ = some (.int .i64 r.f1) ∧ w'.cell? ⟨gr, 2, none⟩ = some (.int .u8 r.f2)) ∧ KB wm w' gk (n + 5) ∧ w'.heap[gr]? = some (.cells #[.int .i64 r.f0, .int .i64 r.f1, .int .u8 r.f2] 23 (0, 0))) ?_ ?_
      rotate_left
      · intro hJ_5_2
        refine join_ (σ := Value) 4 (lb_ 28 54525951) (fun s_ => [(78, .string yB), (83, .string y1), (87, .string y3), (92, .string y2), (101, .string y5), (97, s_), (79, .string (s ++ yB)), (84, .string ((s ++ yB) ++ y1)), (85, .string (((s ++ yB) ++ y1) ++ (⟨#[9]⟩ : ByteArray))), (88, .string ((((s ++ yB) ++ y1) ++ (⟨#[9]⟩ : ByteArray)) ++ y3)), (93, .string (((((s ++ yB) ++ y1) ++ (⟨#[9]⟩ : ByteArray)) ++ y3) ++ y2)), (94, .string ((((((s ++ yB) ++ y1) ++ (⟨#[9]⟩ : ByteArray)) ++ y3) ++ y2) ++ (⟨#[32]⟩ : ByteArray)))]) (fun s_ w' => (w'.cell? ⟨gr, 0, none⟩ = some (.int .i64 r.f0) ∧ w'.cell? ⟨gr, 1, none⟩ = some (.int .i64 r.f1) ∧ w'.cell? ⟨gr, 2, none⟩ = some (.int .u8 r.f2)) ∧ KB wm w' gk (n + 5) ∧ w'.heap[gr]? = some (.cells #[.int .i64 r.f0, .int .i64 r.f1, .int .u8 r.f2] 23 (0, 0)) ∧ Kd.R (Kd.int .u8) 5 w' wm.heap.size (fun k => k ≠ gk) s_ [r.f2]) ?_ ?_
        · as_aux_lemma =>
          rintro s_ w10 ⟨hHeld, h0_, h1_, h2_⟩
          replace HK := Aside0.mk h0_; replace BR := Aside0.mk h1_; have HO := Aside0.mk h2_; clear h2_; clear h0_ h1_
          refine norm_ (a' := ?_) ?_ ?_
          rotate_left
          · simp only [putAll, Act.put, List.setIfInBounds_toArray, List.set_cons_zero, List.set_cons_succ]
            rfl
          refine one_ (i := 22) (N := some 98) (lb_ 28 58720255) rfl rfl (one_of HT_.out (by kernel_rfl)) (by decide) (fun K hK => ?_)
          have hcv := own_string (P := Tryz.prog) Tryz.underlying39 Tryz.underlying5 Tryz.underlying9 (Kd.own_of_R HO.out)
          refine value_ (w1 := ?_) (v := ?_) (by rfl) rfl ?_ ?_
          rotate_left 2
          · go_simp
            constructor
            · rfl
            rfl
          clear hcv
          refine hK.out _ _ (k3_ BR) (fun hHeld => ?_)
          clear hK K
          refine nm_ 98 ?_
          refine pu_ 23 99 (lb_ 28 67108863) rfl rfl (ao_ HT_) ?_
          refine pu_ 26 102 (lb_ 28 134217727) rfl rfl (ao_ HT_) ?_
          exact ny_ (hJ_5_2 s_ _ ⟨hHeld, HK.out, BR.out⟩)
        intro hJ_5_1
        refine join_ (σ := Value) 3 (lb_ 28 33554431) (fun s_ => [(78, .string yB), (83, .string y1), (87, .string y3), (92, .string y2), (97, s_), (98, .string (strOfNums [r.f2])), (79, .string (s ++ yB)), (84, .string ((s ++ yB) ++ y1)), (85, .string (((s ++ yB) ++ y1) ++ (⟨#[9]⟩ : ByteArray))), (88, .string ((((s ++ yB) ++ y1) ++ (⟨#[9]⟩ : ByteArray)) ++ y3)), (93, .string (((((s ++ yB) ++ y1) ++ (⟨#[9]⟩ : ByteArray)) ++ y3) ++ y2)), (94, .string ((((((s ++ yB) ++ y1) ++ (⟨#[9]⟩ : ByteArray)) ++ y3) ++ y2) ++ (⟨#[32]⟩ : ByteArray))), (99, .string (((((((s ++ yB) ++ y1) ++ (⟨#[9]⟩ : ByteArray)) ++ y3) ++ y2) ++ (⟨#[32]⟩ : ByteArray)) ++ (strOfNums [r.f2])))]) (fun s_ w' => (w'.cell? ⟨gr, 0, none⟩ = some (.int .i64 r.f0) ∧ w'.cell? ⟨gr, 1, none⟩ = some (.int .i64 r.f1) ∧ w'.cell? ⟨gr, 2, none⟩ = some (.int .u8 r.f2)) ∧ KB wm w' gk (n + 4) ∧ w'.heap[gr]? = some (.cells #[.int .i64 r.f0, .int .i64 r.f1, .int .u8 r.f2] 23 (0, 0))) ?_ ?_
        · as_aux_lemma =>
          rintro s_ w10 ⟨hHeld, h0_, h1_⟩
          replace HK := Aside0.mk h0_; replace BR := Aside0.mk h1_; clear h0_ h1_
          refine norm_ (a' := ?_) ?_ ?_
          rotate_left
          · simp only [putAll, Act.put, List.setIfInBounds_toArray, List.set_cons_zero, List.set_cons_succ]
            rfl
          refine one_ (i := 25) (N := some 101) (lb_ 28 67108863) rfl rfl (one_of HT_.out (by kernel_rfl)) (by decide) (fun K hK => ?_)
          refine gq_ Tryz.func20 (by kernel_rfl) rfl #[.slice A4 l4.length c4, .pointer (some ⟨gk, 0, none⟩)] (by rfl) rfl rfl ?_
          with_reducible refine (blk_at wm _ gk A4 c4 l4 (n + 4) (n + 5) (by omega) HK.out HCP.out HC4.out (by have := HNn.out; omega) (by have := HNn.out; omega) HPAD.out).mono ?_
          rw [← Hy5.out]
          rintro e w142 ⟨rfl, hk, hf⟩
          refine ⟨_, rfl, ?_⟩
          replace HK := Aside0.mk hk
          replace BR := Aside0.mk (blk_kept BR.out hf NE)
          clear hk hf
          refine hK.out _ _ (k3_ BR) (fun hHeld => ?_)
          clear hK K
          refine nm_ 101 ?_
          refine pu_ 26 102 (lb_ 28 134217727) rfl rfl (ao_ HT_) ?_
          exact ny_ (hJ_5_2 s_ _ ⟨hHeld, HK.out, BR.out⟩)
        intro hJ_4_2
        refine join_ (σ := Unit) 5 (lb_ 28 52428799) (fun s_ => [(78, .string yB), (83, .string y1), (87, .string y3), (92, .string y2), (101, .string y5), (79, .string (s ++ yB)), (84, .string ((s ++ yB) ++ y1)), (85, .string (((s ++ yB) ++ y1) ++ (⟨#[9]⟩ : ByteArray))), (88, .string ((((s ++ yB) ++ y1) ++ (⟨#[9]⟩ : ByteArray)) ++ y3)), (93, .string (((((s ++ yB) ++ y1) ++ (⟨#[9]⟩ : ByteArray)) ++ y3) ++ y2)), (94, .string ((((((s ++ yB) ++ y1) ++ (⟨#[9]⟩ : ByteArray)) ++ y3) ++ y2) ++ (⟨#[32]⟩ : ByteArray)))]) (fun s_ w' => (w'.cell? ⟨gr, 0, none⟩ = some (.int .i64 r.f0) ∧ w'.cell? ⟨gr, 1, none⟩ = some (.int .i64 r.f1) ∧ w'.cell? ⟨gr, 2, none⟩ = some (.int .u8 r.f2)) ∧ KB wm w' gk (n + 5) ∧ w'.heap[gr]? = some (.cells #[.int .i64 r.f0, .int .i64 r.f1, .int .u8 r.f2] 23 (0, 0))) ?_ ?_
        · as_aux_lemma =>
          rintro ⟨⟩ w10 ⟨hHeld, h0_, h1_⟩
          replace HK := Aside0.mk h0_; replace BR := Aside0.mk h1_; clear h0_ h1_
          refine norm_ (a' := ?_) ?_ ?_
          rotate_left
          · simp only [putAll, Act.put, List.setIfInBounds_toArray, List.set_cons_zero, List.set_cons_succ]
            rfl
          refine one_ (i := 21) (N := some 97) (lb_ 28 54525951) rfl rfl (one_of HT_.out (by kernel_rfl)) (by decide) (fun K hK => ?_)
          refine Kd.R_lit_step (Kd.int .u8) _ 5 ?hg (N := 97) ?hd (xs := ([r.f2] : List Int)) (inner := [.int .u8 r.f2]) (ok := fun k => k ≠ gk) (okp := fun k => k ≠ gk) ?hr ?hp (fun _ hk => hk) (by have := blk_lt HK.out.1; omega) (Below.refl _ _) (Nat.le_refl _) (by simp) ?_; (case hd => rfl); (case hg => rfl); (case hr => first | (go_simp; done) | (go_simp; rfl)); (case hp => exact (Reps.one (show Kd.M (Kd.int .u8) _ _ _ r.f2 [.int .u8 r.f2] from rfl) (Reps.none _ _)))
          intro s_ w25 ho hb hg_ hnew_
          clear hg_ hnew_
          have HO := Aside0.mk (Kd.R_lower ho HK.out.b.size)
          replace BR := Aside0.mk (blk_below BR.out hb)
          replace HK := Aside0.mk (HK.out.bel hb)
          clear ho hb
          refine hK.out _ _ (k3_ BR) (fun hHeld => ?_)
          clear hK K
          refine nm_ 97 ?_
          exact ny_ (hJ_5_1 s_ _ ⟨hHeld, HK.out, BR.out, HO.out⟩)
        intro hJ_5_0
        refine join_ (σ := Value) 5 (lb_ 28 20971519) (fun s_ => [(78, .string yB), (83, .string y1), (87, .string y3), (92, .string y2), (97, s_), (79, .string (s ++ yB)), (84, .string ((s ++ yB) ++ y1)), (85, .string (((s ++ yB) ++ y1) ++ (⟨#[9]⟩ : ByteArray))), (88, .string ((((s ++ yB) ++ y1) ++ (⟨#[9]⟩ : ByteArray)) ++ y3)), (93, .string (((((s ++ yB) ++ y1) ++ (⟨#[9]⟩ : ByteArray)) ++ y3) ++ y2)), (94, .string ((((((s ++ yB) ++ y1) ++ (⟨#[9]⟩ : ByteArray)) ++ y3) ++ y2) ++ (⟨#[32]⟩ : ByteArray)))]) (fun s_ w' => (w'.cell? ⟨gr, 0, none⟩ = some (.int .i64 r.f0) ∧ w'.cell? ⟨gr, 1, none⟩ = some (.int .i64 r.f1) ∧ w'.cell? ⟨gr, 2, none⟩ = some (.int .u8 r.f2)) ∧ KB wm w' gk (n + 4) ∧ w'.heap[gr]? = some (.cells #[.int .i64 r.f0, .int .i64 r.f1, .int .u8 r.f2] 23 (0, 0)) ∧ Kd.R (Kd.int .u8) 5 w' wm.heap.size (fun k => k ≠ gk) s_ [r.f2]) ?_ ?_
        · as_aux_lemma =>
          rintro s_ w10 ⟨hHeld, h0_, h1_, h2_⟩
          replace HK := Aside0.mk h0_; replace BR := Aside0.mk h1_; have HO := Aside0.mk h2_; clear h2_; clear h0_ h1_
          refine norm_ (a' := ?_) ?_ ?_
          rotate_left
          · simp only [putAll, Act.put, List.setIfInBounds_toArray, List.set_cons_zero, List.set_cons_succ]
            rfl
          refine two_ (i := 22) (j := 25) (Ni := some 98) (Nj := some 101) (lb_ 28 25165823) (lb_ 28 54525951) rfl rfl rfl rfl (two_of HT_.out (by kernel_rfl)) (by decide) (by decide) (fun K hK => ?_) (fun K hK => ?_)
          · have hcv := own_string (P := Tryz.prog) Tryz.underlying39 Tryz.underlying5 Tryz.underlying9 (Kd.own_of_R HO.out)
            refine value_ (w1 := ?_) (v := ?_) (by rfl) rfl ?_ ?_
            rotate_left 2
            · go_simp
              constructor
              · rfl
              rfl
            clear hcv
            refine hK.out _ _ (k3_ BR) (fun hHeld => ?_)
            clear hK K
            refine nm_ 98 ?_
            refine pu_ 23 99 (lb_ 28 33554431) rfl rfl (ao_ HT_) ?_
            exact ny_ (hJ_4_2 s_ _ ⟨hHeld, HK.out, BR.out⟩)
          · refine gq_ Tryz.func20 (by kernel_rfl) rfl #[.slice A4 l4.length c4, .pointer (some ⟨gk, 0, none⟩)] (by rfl) rfl rfl ?_
            with_reducible refine (blk_at wm _ gk A4 c4 l4 (n + 4) (n + 5) (by omega) HK.out HCP.out HC4.out (by have := HNn.out; omega) (by have := HNn.out; omega) HPAD.out).mono ?_
            rw [← Hy5.out]
            rintro e w141 ⟨rfl, hk, hf⟩
            refine ⟨_, rfl, ?_⟩
            replace HK := Aside0.mk hk
            replace BR := Aside0.mk (blk_kept BR.out hf NE); replace HO := Aside0.mk (Kd.R_mono (Kd.R_keptB HO.out hf (fun k hk hs => hk hs)) (fun k hk => hk.1))
            clear hk hf
            refine hK.out _ _ (k3_ BR) (fun hHeld => ?_)
            clear hK K
            refine nm_ 101 ?_
            exact ny_ (hJ_5_1 s_ _ ⟨hHeld, HK.out, BR.out, HO.out⟩)
        intro hJ_4_1
        refine join_ (σ := Value) 7 (lb_ 28 24707071) (fun s_ => [(78, .string yB), (83, .string y1), (87, .string y3), (97, s_), (98, .string (strOfNums [r.f2])), (79, .string (s ++ yB)), (84, .string ((s ++ yB) ++ y1)), (85, .string (((s ++ yB) ++ y1) ++ (⟨#[9]⟩ : ByteArray))), (88, .string ((((s ++ yB) ++ y1) ++ (⟨#[9]⟩ : ByteArray)) ++ y3))]) (fun s_ w' => (w'.cell? ⟨gr, 0, none⟩ = some (.int .i64 r.f0) ∧ w'.cell? ⟨gr, 1, none⟩ = some (.int .i64 r.f1) ∧ w'.cell? ⟨gr, 2, none⟩ = some (.int .u8 r.f2)) ∧ KB wm w' gk (n + 3) ∧ w'.heap[gr]? = some (.cells #[.int .i64 r.f0, .int .i64 r.f1, .int .u8 r.f2] 23 (0, 0))) ?_ ?_
        · as_aux_lemma =>
          rintro s_ w10 ⟨hHeld, h0_, h1_⟩
          replace HK := Aside0.mk h0_; replace BR := Aside0.mk h1_; clear h0_ h1_
          refine norm_ (a' := ?_) ?_ ?_
          rotate_left
          · simp only [putAll, Act.put, List.setIfInBounds_toArray, List.set_cons_zero, List.set_cons_succ]
            rfl
          refine one_ (i := 16) (N := some 92) (lb_ 28 24772607) rfl rfl (one_of HT_.out (by kernel_rfl)) (by decide) (fun K hK => ?_)
          refine gq_ Tryz.func21 (by kernel_rfl) rfl #[.int .i64 r.f1, .slice A4 l4.length c4, .pointer (some ⟨gk, 0, none⟩)] (by rfl) rfl rfl ?_
          with_reducible refine (number_at r.f1 (HN.out r.f1 HSM.out.2.2.1 HSM.out.2.2.2) wm _ gk A4 c4 l4 (n + 3) (n + 4) (by omega) HK.out HTm.out HCP.out HC4.out (by have := HNn.out; omega) (by have := HNn.out; omega) HPAD.out).mono ?_
          rw [← Hy2.out]
          rintro e w132 ⟨rfl, hk, hf⟩
          refine ⟨_, rfl, ?_⟩
          replace HK := Aside0.mk hk
          replace BR := Aside0.mk (blk_kept BR.out hf NE)
          clear hk hf
          refine hK.out _ _ (k3_ BR) (fun hHeld => ?_)
          clear hK K
          refine nm_ 92 ?_
          refine pu_ 17 93 (lb_ 28 24903679) rfl rfl (ao_ HT_) ?_
          refine pu_ 18 94 (lb_ 28 25165823) rfl rfl (ao_ HT_) ?_
          refine pu_ 23 99 (lb_ 28 33554431) rfl rfl (ao_ HT_) ?_
          exact ny_ (hJ_4_2 s_ _ ⟨hHeld, HK.out, BR.out⟩)
        intro hJ_3_2
        refine join_ (σ := Unit) 6 (lb_ 28 18874367) (fun s_ => [(78, .string yB), (83, .string y1), (87, .string y3), (92, .string y2), (79, .string (s ++ yB)), (84, .string ((s ++ yB) ++ y1)), (85, .string (((s ++ yB) ++ y1) ++ (⟨#[9]⟩ : ByteArray))), (88, .string ((((s ++ yB) ++ y1) ++ (⟨#[9]⟩ : ByteArray)) ++ y3)), (93, .string (((((s ++ yB) ++ y1) ++ (⟨#[9]⟩ : ByteArray)) ++ y3) ++ y2)), (94, .string ((((((s ++ yB) ++ y1) ++ (⟨#[9]⟩ : ByteArray)) ++ y3) ++ y2) ++ (⟨#[32]⟩ : ByteArray)))]) (fun s_ w' => (w'.cell? ⟨gr, 0, none⟩ = some (.int .i64 r.f0) ∧ w'.cell? ⟨gr, 1, none⟩ = some (.int .i64 r.f1) ∧ w'.cell? ⟨gr, 2, none⟩ = some (.int .u8 r.f2)) ∧ KB wm w' gk (n + 4) ∧ w'.heap[gr]? = some (.cells #[.int .i64 r.f0, .int .i64 r.f1, .int .u8 r.f2] 23 (0, 0))) ?_ ?_
        · as_aux_lemma =>
          rintro ⟨⟩ w10 ⟨hHeld, h0_, h1_⟩
          replace HK := Aside0.mk h0_; replace BR := Aside0.mk h1_; clear h0_ h1_
          refine norm_ (a' := ?_) ?_ ?_
          rotate_left
          · simp only [putAll, Act.put, List.setIfInBounds_toArray, List.set_cons_zero, List.set_cons_succ]
            rfl
          refine two_ (i := 21) (j := 25) (Ni := some 97) (Nj := some 101) (lb_ 28 20971519) (lb_ 28 52428799) rfl rfl rfl rfl (two_of HT_.out (by kernel_rfl)) (by decide) (by decide) (fun K hK => ?_) (fun K hK => ?_)
          · refine Kd.R_lit_step (Kd.int .u8) _ 5 ?hg (N := 97) ?hd (xs := ([r.f2] : List Int)) (inner := [.int .u8 r.f2]) (ok := fun k => k ≠ gk) (okp := fun k => k ≠ gk) ?hr ?hp (fun _ hk => hk) (by have := blk_lt HK.out.1; omega) (Below.refl _ _) (Nat.le_refl _) (by simp) ?_; (case hd => rfl); (case hg => rfl); (case hr => first | (go_simp; done) | (go_simp; rfl)); (case hp => exact (Reps.one (show Kd.M (Kd.int .u8) _ _ _ r.f2 [.int .u8 r.f2] from rfl) (Reps.none _ _)))
            intro s_ w24 ho hb hg_ hnew_
            clear hg_ hnew_
            have HO := Aside0.mk (Kd.R_lower ho HK.out.b.size)
            replace BR := Aside0.mk (blk_below BR.out hb)
            replace HK := Aside0.mk (HK.out.bel hb)
            clear ho hb
            refine hK.out _ _ (k3_ BR) (fun hHeld => ?_)
            clear hK K
            refine nm_ 97 ?_
            exact ny_ (hJ_4_1 s_ _ ⟨hHeld, HK.out, BR.out, HO.out⟩)
          · refine gq_ Tryz.func20 (by kernel_rfl) rfl #[.slice A4 l4.length c4, .pointer (some ⟨gk, 0, none⟩)] (by rfl) rfl rfl ?_
            with_reducible refine (blk_at wm _ gk A4 c4 l4 (n + 4) (n + 5) (by omega) HK.out HCP.out HC4.out (by have := HNn.out; omega) (by have := HNn.out; omega) HPAD.out).mono ?_
            rw [← Hy5.out]
            rintro e w140 ⟨rfl, hk, hf⟩
            refine ⟨_, rfl, ?_⟩
            replace HK := Aside0.mk hk
            replace BR := Aside0.mk (blk_kept BR.out hf NE)
            clear hk hf
            refine hK.out _ _ (k3_ BR) (fun hHeld => ?_)
            clear hK K
            refine nm_ 101 ?_
            exact ny_ (hJ_5_0 () _ ⟨hHeld, HK.out, BR.out⟩)
        intro hJ_4_0
        refine join_ (σ := Value) 8 (lb_ 28 20512767) (fun s_ => [(78, .string yB), (83, .string y1), (87, .string y3), (97, s_), (79, .string (s ++ yB)), (84, .string ((s ++ yB) ++ y1)), (85, .string (((s ++ yB) ++ y1) ++ (⟨#[9]⟩ : ByteArray))), (88, .string ((((s ++ yB) ++ y1) ++ (⟨#[9]⟩ : ByteArray)) ++ y3))]) (fun s_ w' => (w'.cell? ⟨gr, 0, none⟩ = some (.int .i64 r.f0) ∧ w'.cell? ⟨gr, 1, none⟩ = some (.int .i64 r.f1) ∧ w'.cell? ⟨gr, 2, none⟩ = some (.int .u8 r.f2)) ∧ KB wm w' gk (n + 3) ∧ w'.heap[gr]? = some (.cells #[.int .i64 r.f0, .int .i64 r.f1, .int .u8 r.f2] 23 (0, 0)) ∧ Kd.R (Kd.int .u8) 5 w' wm.heap.size (fun k => k ≠ gk) s_ [r.f2]) ?_ ?_
        · as_aux_lemma =>
          rintro s_ w10 ⟨hHeld, h0_, h1_, h2_⟩
          replace HK := Aside0.mk h0_; replace BR := Aside0.mk h1_; have HO := Aside0.mk h2_; clear h2_; clear h0_ h1_
          refine norm_ (a' := ?_) ?_ ?_
          rotate_left
          · simp only [putAll, Act.put, List.setIfInBounds_toArray, List.set_cons_zero, List.set_cons_succ]
            rfl
          refine two_ (i := 16) (j := 22) (Ni := some 92) (Nj := some 98) (lb_ 28 20578303) (lb_ 28 24707071) rfl rfl rfl rfl (two_of HT_.out (by kernel_rfl)) (by decide) (by decide) (fun K hK => ?_) (fun K hK => ?_)
          · refine gq_ Tryz.func21 (by kernel_rfl) rfl #[.int .i64 r.f1, .slice A4 l4.length c4, .pointer (some ⟨gk, 0, none⟩)] (by rfl) rfl rfl ?_
            with_reducible refine (number_at r.f1 (HN.out r.f1 HSM.out.2.2.1 HSM.out.2.2.2) wm _ gk A4 c4 l4 (n + 3) (n + 4) (by omega) HK.out HTm.out HCP.out HC4.out (by have := HNn.out; omega) (by have := HNn.out; omega) HPAD.out).mono ?_
            rw [← Hy2.out]
            rintro e w131 ⟨rfl, hk, hf⟩
            refine ⟨_, rfl, ?_⟩
            replace HK := Aside0.mk hk
            replace BR := Aside0.mk (blk_kept BR.out hf NE); replace HO := Aside0.mk (Kd.R_mono (Kd.R_keptB HO.out hf (fun k hk hs => hk hs)) (fun k hk => hk.1))
            clear hk hf
            refine hK.out _ _ (k3_ BR) (fun hHeld => ?_)
            clear hK K
            refine nm_ 92 ?_
            refine pu_ 17 93 (lb_ 28 20709375) rfl rfl (ao_ HT_) ?_
            refine pu_ 18 94 (lb_ 28 20971519) rfl rfl (ao_ HT_) ?_
            exact ny_ (hJ_4_1 s_ _ ⟨hHeld, HK.out, BR.out, HO.out⟩)
          · have hcv := own_string (P := Tryz.prog) Tryz.underlying39 Tryz.underlying5 Tryz.underlying9 (Kd.own_of_R HO.out)
            refine value_ (w1 := ?_) (v := ?_) (by rfl) rfl ?_ ?_
            rotate_left 2
            · go_simp
              constructor
              · rfl
              rfl
            clear hcv
            refine hK.out _ _ (k3_ BR) (fun hHeld => ?_)
            clear hK K
            refine nm_ 98 ?_
            exact ny_ (hJ_3_2 s_ _ ⟨hHeld, HK.out, BR.out⟩)
        intro hJ_3_1
        refine join_ (σ := Value) 9 (lb_ 28 24700927) (fun s_ => [(78, .string yB), (83, .string y1), (97, s_), (98, .string (strOfNums [r.f2])), (79, .string (s ++ yB)), (84, .string ((s ++ yB) ++ y1)), (85, .string (((s ++ yB) ++ y1) ++ (⟨#[9]⟩ : ByteArray)))]) (fun s_ w' => (w'.cell? ⟨gr, 0, none⟩ = some (.int .i64 r.f0) ∧ w'.cell? ⟨gr, 1, none⟩ = some (.int .i64 r.f1) ∧ w'.cell? ⟨gr, 2, none⟩ = some (.int .u8 r.f2)) ∧ KB wm w' gk (n + 2) ∧ w'.heap[gr]? = some (.cells #[.int .i64 r.f0, .int .i64 r.f1, .int .u8 r.f2] 23 (0, 0))) ?_ ?_
        · as_aux_lemma =>
          rintro s_ w10 ⟨hHeld, h0_, h1_⟩
          replace HK := Aside0.mk h0_; replace BR := Aside0.mk h1_; clear h0_ h1_
          refine norm_ (a' := ?_) ?_ ?_
          rotate_left
          · simp only [putAll, Act.put, List.setIfInBounds_toArray, List.set_cons_zero, List.set_cons_succ]
            rfl
          refine one_ (i := 11) (N := some 87) (lb_ 28 24702975) rfl rfl (one_of HT_.out (by kernel_rfl)) (by decide) (fun K hK => ?_)
          refine gq_ Tryz.func20 (by kernel_rfl) rfl #[.slice A4 l4.length c4, .pointer (some ⟨gk, 0, none⟩)] (by rfl) rfl rfl ?_
          with_reducible refine (blk_at wm _ gk A4 c4 l4 (n + 2) (n + 3) (by omega) HK.out HCP.out HC4.out (by have := HNn.out; omega) (by have := HNn.out; omega) HPAD.out).mono ?_
          rw [← Hy3.out]
          rintro e w122 ⟨rfl, hk, hf⟩
          refine ⟨_, rfl, ?_⟩
          replace HK := Aside0.mk hk
          replace BR := Aside0.mk (blk_kept BR.out hf NE)
          clear hk hf
          refine hK.out _ _ (k3_ BR) (fun hHeld => ?_)
          clear hK K
          refine nm_ 87 ?_
          refine pu_ 12 88 (lb_ 28 24707071) rfl rfl (ao_ HT_) ?_
          exact ny_ (hJ_3_2 s_ _ ⟨hHeld, HK.out, BR.out⟩)
        intro hJ_2_2
        refine join_ (σ := Unit) 9 (lb_ 28 18415615) (fun s_ => [(78, .string yB), (83, .string y1), (87, .string y3), (79, .string (s ++ yB)), (84, .string ((s ++ yB) ++ y1)), (85, .string (((s ++ yB) ++ y1) ++ (⟨#[9]⟩ : ByteArray))), (88, .string ((((s ++ yB) ++ y1) ++ (⟨#[9]⟩ : ByteArray)) ++ y3))]) (fun s_ w' => (w'.cell? ⟨gr, 0, none⟩ = some (.int .i64 r.f0) ∧ w'.cell? ⟨gr, 1, none⟩ = some (.int .i64 r.f1) ∧ w'.cell? ⟨gr, 2, none⟩ = some (.int .u8 r.f2)) ∧ KB wm w' gk (n + 3) ∧ w'.heap[gr]? = some (.cells #[.int .i64 r.f0, .int .i64 r.f1, .int .u8 r.f2] 23 (0, 0))) ?_ ?_
        · as_aux_lemma =>
          rintro ⟨⟩ w10 ⟨hHeld, h0_, h1_⟩
          replace HK := Aside0.mk h0_; replace BR := Aside0.mk h1_; clear h0_ h1_
          refine norm_ (a' := ?_) ?_ ?_
          rotate_left
          · simp only [putAll, Act.put, List.setIfInBounds_toArray, List.set_cons_zero, List.set_cons_succ]
            rfl
          refine two_ (i := 16) (j := 21) (Ni := some 92) (Nj := some 97) (lb_ 28 18481151) (lb_ 28 20512767) rfl rfl rfl rfl (two_of HT_.out (by kernel_rfl)) (by decide) (by decide) (fun K hK => ?_) (fun K hK => ?_)
          · refine gq_ Tryz.func21 (by kernel_rfl) rfl #[.int .i64 r.f1, .slice A4 l4.length c4, .pointer (some ⟨gk, 0, none⟩)] (by rfl) rfl rfl ?_
            with_reducible refine (number_at r.f1 (HN.out r.f1 HSM.out.2.2.1 HSM.out.2.2.2) wm _ gk A4 c4 l4 (n + 3) (n + 4) (by omega) HK.out HTm.out HCP.out HC4.out (by have := HNn.out; omega) (by have := HNn.out; omega) HPAD.out).mono ?_
            rw [← Hy2.out]
            rintro e w130 ⟨rfl, hk, hf⟩
            refine ⟨_, rfl, ?_⟩
            replace HK := Aside0.mk hk
            replace BR := Aside0.mk (blk_kept BR.out hf NE)
            clear hk hf
            refine hK.out _ _ (k3_ BR) (fun hHeld => ?_)
            clear hK K
            refine nm_ 92 ?_
            refine pu_ 17 93 (lb_ 28 18612223) rfl rfl (ao_ HT_) ?_
            refine pu_ 18 94 (lb_ 28 18874367) rfl rfl (ao_ HT_) ?_
            exact ny_ (hJ_4_0 () _ ⟨hHeld, HK.out, BR.out⟩)
          · refine Kd.R_lit_step (Kd.int .u8) _ 5 ?hg (N := 97) ?hd (xs := ([r.f2] : List Int)) (inner := [.int .u8 r.f2]) (ok := fun k => k ≠ gk) (okp := fun k => k ≠ gk) ?hr ?hp (fun _ hk => hk) (by have := blk_lt HK.out.1; omega) (Below.refl _ _) (Nat.le_refl _) (by simp) ?_; (case hd => rfl); (case hg => rfl); (case hr => first | (go_simp; done) | (go_simp; rfl)); (case hp => exact (Reps.one (show Kd.M (Kd.int .u8) _ _ _ r.f2 [.int .u8 r.f2] from rfl) (Reps.none _ _)))
            intro s_ w23 ho hb hg_ hnew_
            clear hg_ hnew_
            have HO := Aside0.mk (Kd.R_lower ho HK.out.b.size)
            replace BR := Aside0.mk (blk_below BR.out hb)
            replace HK := Aside0.mk (HK.out.bel hb)
            clear ho hb
            refine hK.out _ _ (k3_ BR) (fun hHeld => ?_)
            clear hK K
            refine nm_ 97 ?_
            exact ny_ (hJ_3_1 s_ _ ⟨hHeld, HK.out, BR.out, HO.out⟩)
        intro hJ_3_0
        refine join_ (σ := Value) 10 (lb_ 28 20506623) (fun s_ => [(78, .string yB), (83, .string y1), (97, s_), (79, .string (s ++ yB)), (84, .string ((s ++ yB) ++ y1)), (85, .string (((s ++ yB) ++ y1) ++ (⟨#[9]⟩ : ByteArray)))]) (fun s_ w' => (w'.cell? ⟨gr, 0, none⟩ = some (.int .i64 r.f0) ∧ w'.cell? ⟨gr, 1, none⟩ = some (.int .i64 r.f1) ∧ w'.cell? ⟨gr, 2, none⟩ = some (.int .u8 r.f2)) ∧ KB wm w' gk (n + 2) ∧ w'.heap[gr]? = some (.cells #[.int .i64 r.f0, .int .i64 r.f1, .int .u8 r.f2] 23 (0, 0)) ∧ Kd.R (Kd.int .u8) 5 w' wm.heap.size (fun k => k ≠ gk) s_ [r.f2]) ?_ ?_
        · as_aux_lemma =>
          rintro s_ w10 ⟨hHeld, h0_, h1_, h2_⟩
          replace HK := Aside0.mk h0_; replace BR := Aside0.mk h1_; have HO := Aside0.mk h2_; clear h2_; clear h0_ h1_
          refine norm_ (a' := ?_) ?_ ?_
          rotate_left
          · simp only [putAll, Act.put, List.setIfInBounds_toArray, List.set_cons_zero, List.set_cons_succ]
            rfl
          refine two_ (i := 11) (j := 22) (Ni := some 87) (Nj := some 98) (lb_ 28 20508671) (lb_ 28 24700927) rfl rfl rfl rfl (two_of HT_.out (by kernel_rfl)) (by decide) (by decide) (fun K hK => ?_) (fun K hK => ?_)
          · refine gq_ Tryz.func20 (by kernel_rfl) rfl #[.slice A4 l4.length c4, .pointer (some ⟨gk, 0, none⟩)] (by rfl) rfl rfl ?_
            with_reducible refine (blk_at wm _ gk A4 c4 l4 (n + 2) (n + 3) (by omega) HK.out HCP.out HC4.out (by have := HNn.out; omega) (by have := HNn.out; omega) HPAD.out).mono ?_
            rw [← Hy3.out]
            rintro e w121 ⟨rfl, hk, hf⟩
            refine ⟨_, rfl, ?_⟩
            replace HK := Aside0.mk hk
            replace BR := Aside0.mk (blk_kept BR.out hf NE); replace HO := Aside0.mk (Kd.R_mono (Kd.R_keptB HO.out hf (fun k hk hs => hk hs)) (fun k hk => hk.1))
            clear hk hf
            refine hK.out _ _ (k3_ BR) (fun hHeld => ?_)
            clear hK K
            refine nm_ 87 ?_
            refine pu_ 12 88 (lb_ 28 20512767) rfl rfl (ao_ HT_) ?_
            exact ny_ (hJ_3_1 s_ _ ⟨hHeld, HK.out, BR.out, HO.out⟩)
          · have hcv := own_string (P := Tryz.prog) Tryz.underlying39 Tryz.underlying5 Tryz.underlying9 (Kd.own_of_R HO.out)
            refine value_ (w1 := ?_) (v := ?_) (by rfl) rfl ?_ ?_
            rotate_left 2
            · go_simp
              constructor
              · rfl
              rfl
            clear hcv
            refine hK.out _ _ (k3_ BR) (fun hHeld => ?_)
            clear hK K
            refine nm_ 98 ?_
            exact ny_ (hJ_2_2 s_ _ ⟨hHeld, HK.out, BR.out⟩)
        intro hJ_2_1
        refine join_ (σ := Value) 12 (lb_ 28 24700031) (fun s_ => [(78, .string yB), (97, s_), (98, .string (strOfNums [r.f2])), (79, .string (s ++ yB))]) (fun s_ w' => (w'.cell? ⟨gr, 0, none⟩ = some (.int .i64 r.f0) ∧ w'.cell? ⟨gr, 1, none⟩ = some (.int .i64 r.f1) ∧ w'.cell? ⟨gr, 2, none⟩ = some (.int .u8 r.f2)) ∧ KB wm w' gk (n + 1) ∧ w'.heap[gr]? = some (.cells #[.int .i64 r.f0, .int .i64 r.f1, .int .u8 r.f2] 23 (0, 0))) ?_ ?_
        · as_aux_lemma =>
          rintro s_ w10 ⟨hHeld, h0_, h1_⟩
          replace HK := Aside0.mk h0_; replace BR := Aside0.mk h1_; clear h0_ h1_
          refine norm_ (a' := ?_) ?_ ?_
          rotate_left
          · simp only [putAll, Act.put, List.setIfInBounds_toArray, List.set_cons_zero, List.set_cons_succ]
            rfl
          refine one_ (i := 7) (N := some 83) (lb_ 28 24700159) rfl rfl (one_of HT_.out (by kernel_rfl)) (by decide) (fun K hK => ?_)
          refine gq_ Tryz.func21 (by kernel_rfl) rfl #[.int .i64 r.f0, .slice A4 l4.length c4, .pointer (some ⟨gk, 0, none⟩)] (by rfl) rfl rfl ?_
          with_reducible refine (number_at r.f0 (HN.out r.f0 HSM.out.1 HSM.out.2.1) wm _ gk A4 c4 l4 (n + 1) (n + 2) (by omega) HK.out HTm.out HCP.out HC4.out (by have := HNn.out; omega) (by have := HNn.out; omega) HPAD.out).mono ?_
          rw [← Hy1.out]
          rintro e w112 ⟨rfl, hk, hf⟩
          refine ⟨_, rfl, ?_⟩
          replace HK := Aside0.mk hk
          replace BR := Aside0.mk (blk_kept BR.out hf NE)
          clear hk hf
          refine hK.out _ _ (k3_ BR) (fun hHeld => ?_)
          clear hK K
          refine nm_ 83 ?_
          refine pu_ 8 84 (lb_ 28 24700415) rfl rfl (ao_ HT_) ?_
          refine pu_ 9 85 (lb_ 28 24700927) rfl rfl (ao_ HT_) ?_
          exact ny_ (hJ_2_2 s_ _ ⟨hHeld, HK.out, BR.out⟩)
        intro hJ_1_2
        refine join_ (σ := Unit) 11 (lb_ 28 18409471) (fun s_ => [(78, .string yB), (83, .string y1), (79, .string (s ++ yB)), (84, .string ((s ++ yB) ++ y1)), (85, .string (((s ++ yB) ++ y1) ++ (⟨#[9]⟩ : ByteArray)))]) (fun s_ w' => (w'.cell? ⟨gr, 0, none⟩ = some (.int .i64 r.f0) ∧ w'.cell? ⟨gr, 1, none⟩ = some (.int .i64 r.f1) ∧ w'.cell? ⟨gr, 2, none⟩ = some (.int .u8 r.f2)) ∧ KB wm w' gk (n + 2) ∧ w'.heap[gr]? = some (.cells #[.int .i64 r.f0, .int .i64 r.f1, .int .u8 r.f2] 23 (0, 0))) ?_ ?_
        · as_aux_lemma =>
          rintro ⟨⟩ w10 ⟨hHeld, h0_, h1_⟩
          replace HK := Aside0.mk h0_; replace BR := Aside0.mk h1_; clear h0_ h1_
          refine norm_ (a' := ?_) ?_ ?_
          rotate_left
          · simp only [putAll, Act.put, List.setIfInBounds_toArray, List.set_cons_zero, List.set_cons_succ]
            rfl
          refine two_ (i := 11) (j := 21) (Ni := some 87) (Nj := some 97) (lb_ 28 18411519) (lb_ 28 20506623) rfl rfl rfl rfl (two_of HT_.out (by kernel_rfl)) (by decide) (by decide) (fun K hK => ?_) (fun K hK => ?_)
          · refine gq_ Tryz.func20 (by kernel_rfl) rfl #[.slice A4 l4.length c4, .pointer (some ⟨gk, 0, none⟩)] (by rfl) rfl rfl ?_
            with_reducible refine (blk_at wm _ gk A4 c4 l4 (n + 2) (n + 3) (by omega) HK.out HCP.out HC4.out (by have := HNn.out; omega) (by have := HNn.out; omega) HPAD.out).mono ?_
            rw [← Hy3.out]
            rintro e w120 ⟨rfl, hk, hf⟩
            refine ⟨_, rfl, ?_⟩
            replace HK := Aside0.mk hk
            replace BR := Aside0.mk (blk_kept BR.out hf NE)
            clear hk hf
            refine hK.out _ _ (k3_ BR) (fun hHeld => ?_)
            clear hK K
            refine nm_ 87 ?_
            refine pu_ 12 88 (lb_ 28 18415615) rfl rfl (ao_ HT_) ?_
            exact ny_ (hJ_3_0 () _ ⟨hHeld, HK.out, BR.out⟩)
          · refine Kd.R_lit_step (Kd.int .u8) _ 5 ?hg (N := 97) ?hd (xs := ([r.f2] : List Int)) (inner := [.int .u8 r.f2]) (ok := fun k => k ≠ gk) (okp := fun k => k ≠ gk) ?hr ?hp (fun _ hk => hk) (by have := blk_lt HK.out.1; omega) (Below.refl _ _) (Nat.le_refl _) (by simp) ?_; (case hd => rfl); (case hg => rfl); (case hr => first | (go_simp; done) | (go_simp; rfl)); (case hp => exact (Reps.one (show Kd.M (Kd.int .u8) _ _ _ r.f2 [.int .u8 r.f2] from rfl) (Reps.none _ _)))
            intro s_ w22 ho hb hg_ hnew_
            clear hg_ hnew_
            have HO := Aside0.mk (Kd.R_lower ho HK.out.b.size)
            replace BR := Aside0.mk (blk_below BR.out hb)
            replace HK := Aside0.mk (HK.out.bel hb)
            clear ho hb
            refine hK.out _ _ (k3_ BR) (fun hHeld => ?_)
            clear hK K
            refine nm_ 97 ?_
            exact ny_ (hJ_2_1 s_ _ ⟨hHeld, HK.out, BR.out, HO.out⟩)
        intro hJ_2_0
        refine join_ (σ := Value) 13 (lb_ 28 20505727) (fun s_ => [(78, .string yB), (97, s_), (79, .string (s ++ yB))]) (fun s_ w' => (w'.cell? ⟨gr, 0, none⟩ = some (.int .i64 r.f0) ∧ w'.cell? ⟨gr, 1, none⟩ = some (.int .i64 r.f1) ∧ w'.cell? ⟨gr, 2, none⟩ = some (.int .u8 r.f2)) ∧ KB wm w' gk (n + 1) ∧ w'.heap[gr]? = some (.cells #[.int .i64 r.f0, .int .i64 r.f1, .int .u8 r.f2] 23 (0, 0)) ∧ Kd.R (Kd.int .u8) 5 w' wm.heap.size (fun k => k ≠ gk) s_ [r.f2]) ?_ ?_
        · as_aux_lemma =>
          rintro s_ w10 ⟨hHeld, h0_, h1_, h2_⟩
          replace HK := Aside0.mk h0_; replace BR := Aside0.mk h1_; have HO := Aside0.mk h2_; clear h2_; clear h0_ h1_
          refine norm_ (a' := ?_) ?_ ?_
          rotate_left
          · simp only [putAll, Act.put, List.setIfInBounds_toArray, List.set_cons_zero, List.set_cons_succ]
            rfl
          refine two_ (i := 7) (j := 22) (Ni := some 83) (Nj := some 98) (lb_ 28 20505855) (lb_ 28 24700031) rfl rfl rfl rfl (two_of HT_.out (by kernel_rfl)) (by decide) (by decide) (fun K hK => ?_) (fun K hK => ?_)
          · refine gq_ Tryz.func21 (by kernel_rfl) rfl #[.int .i64 r.f0, .slice A4 l4.length c4, .pointer (some ⟨gk, 0, none⟩)] (by rfl) rfl rfl ?_
            with_reducible refine (number_at r.f0 (HN.out r.f0 HSM.out.1 HSM.out.2.1) wm _ gk A4 c4 l4 (n + 1) (n + 2) (by omega) HK.out HTm.out HCP.out HC4.out (by have := HNn.out; omega) (by have := HNn.out; omega) HPAD.out).mono ?_
            rw [← Hy1.out]
            rintro e w111 ⟨rfl, hk, hf⟩
            refine ⟨_, rfl, ?_⟩
            replace HK := Aside0.mk hk
            replace BR := Aside0.mk (blk_kept BR.out hf NE); replace HO := Aside0.mk (Kd.R_mono (Kd.R_keptB HO.out hf (fun k hk hs => hk hs)) (fun k hk => hk.1))
            clear hk hf
            refine hK.out _ _ (k3_ BR) (fun hHeld => ?_)
            clear hK K
            refine nm_ 83 ?_
            refine pu_ 8 84 (lb_ 28 20506111) rfl rfl (ao_ HT_) ?_
            refine pu_ 9 85 (lb_ 28 20506623) rfl rfl (ao_ HT_) ?_
            exact ny_ (hJ_2_1 s_ _ ⟨hHeld, HK.out, BR.out, HO.out⟩)
          · have hcv := own_string (P := Tryz.prog) Tryz.underlying39 Tryz.underlying5 Tryz.underlying9 (Kd.own_of_R HO.out)
            refine value_ (w1 := ?_) (v := ?_) (by rfl) rfl ?_ ?_
            rotate_left 2
            · go_simp
              constructor
              · rfl
              rfl
            clear hcv
            refine hK.out _ _ (k3_ BR) (fun hHeld => ?_)
            clear hK K
            refine nm_ 98 ?_
            exact ny_ (hJ_1_2 s_ _ ⟨hHeld, HK.out, BR.out⟩)
        intro hJ_1_1
        refine join_ (σ := Value) 14 (lb_ 28 24700019) (fun s_ => [(97, s_), (98, .string (strOfNums [r.f2]))]) (fun s_ w' => (w'.cell? ⟨gr, 0, none⟩ = some (.int .i64 r.f0) ∧ w'.cell? ⟨gr, 1, none⟩ = some (.int .i64 r.f1) ∧ w'.cell? ⟨gr, 2, none⟩ = some (.int .u8 r.f2)) ∧ KB wm w' gk (n + 0) ∧ w'.heap[gr]? = some (.cells #[.int .i64 r.f0, .int .i64 r.f1, .int .u8 r.f2] 23 (0, 0))) ?_ ?_
        · as_aux_lemma =>
          rintro s_ w10 ⟨hHeld, h0_, h1_⟩
          replace HK := Aside0.mk h0_; replace BR := Aside0.mk h1_; clear h0_ h1_
          refine norm_ (a' := ?_) ?_ ?_
          rotate_left
          · simp only [putAll, Act.put, List.setIfInBounds_toArray, List.set_cons_zero, List.set_cons_succ]
            rfl
          refine one_ (i := 2) (N := some 78) (lb_ 28 24700023) rfl rfl (one_of HT_.out (by kernel_rfl)) (by decide) (fun K hK => ?_)
          refine gq_ Tryz.func19 (by kernel_rfl) rfl #[.slice A4 l4.length c4, .pointer (some ⟨gk, 0, none⟩)] (by rfl) rfl rfl ?_
          with_reducible refine (btw_at wm _ gk A4 c4 l4 (n + 0) (n + 1) (by omega) HK.out HCP.out HC4.out (by have := HNn.out; omega) (by have := HNn.out; omega) HPAD.out).mono ?_
          rw [← HyB.out]
          rintro e w102 ⟨rfl, hk, hf⟩
          refine ⟨_, rfl, ?_⟩
          replace HK := Aside0.mk hk
          replace BR := Aside0.mk (blk_kept BR.out hf NE)
          clear hk hf
          refine hK.out _ _ (k3_ BR) (fun hHeld => ?_)
          clear hK K
          refine nm_ 78 ?_
          refine pu_ 3 79 (lb_ 28 24700031) rfl rfl (ao_ HT_) ?_
          exact ny_ (hJ_1_2 s_ _ ⟨hHeld, HK.out, BR.out⟩)
        intro hJ_0_2
        refine join_ (σ := Unit) 14 (lb_ 28 18408575) (fun s_ => [(78, .string yB), (79, .string (s ++ yB))]) (fun s_ w' => (w'.cell? ⟨gr, 0, none⟩ = some (.int .i64 r.f0) ∧ w'.cell? ⟨gr, 1, none⟩ = some (.int .i64 r.f1) ∧ w'.cell? ⟨gr, 2, none⟩ = some (.int .u8 r.f2)) ∧ KB wm w' gk (n + 1) ∧ w'.heap[gr]? = some (.cells #[.int .i64 r.f0, .int .i64 r.f1, .int .u8 r.f2] 23 (0, 0))) ?_ ?_
        · as_aux_lemma =>
          rintro ⟨⟩ w10 ⟨hHeld, h0_, h1_⟩
          replace HK := Aside0.mk h0_; replace BR := Aside0.mk h1_; clear h0_ h1_
          refine norm_ (a' := ?_) ?_ ?_
          rotate_left
          · simp only [putAll, Act.put, List.setIfInBounds_toArray, List.set_cons_zero, List.set_cons_succ]
            rfl
          refine two_ (i := 7) (j := 21) (Ni := some 83) (Nj := some 97) (lb_ 28 18408703) (lb_ 28 20505727) rfl rfl rfl rfl (two_of HT_.out (by kernel_rfl)) (by decide) (by decide) (fun K hK => ?_) (fun K hK => ?_)
          · refine gq_ Tryz.func21 (by kernel_rfl) rfl #[.int .i64 r.f0, .slice A4 l4.length c4, .pointer (some ⟨gk, 0, none⟩)] (by rfl) rfl rfl ?_
            with_reducible refine (number_at r.f0 (HN.out r.f0 HSM.out.1 HSM.out.2.1) wm _ gk A4 c4 l4 (n + 1) (n + 2) (by omega) HK.out HTm.out HCP.out HC4.out (by have := HNn.out; omega) (by have := HNn.out; omega) HPAD.out).mono ?_
            rw [← Hy1.out]
            rintro e w110 ⟨rfl, hk, hf⟩
            refine ⟨_, rfl, ?_⟩
            replace HK := Aside0.mk hk
            replace BR := Aside0.mk (blk_kept BR.out hf NE)
            clear hk hf
            refine hK.out _ _ (k3_ BR) (fun hHeld => ?_)
            clear hK K
            refine nm_ 83 ?_
            refine pu_ 8 84 (lb_ 28 18408959) rfl rfl (ao_ HT_) ?_
            refine pu_ 9 85 (lb_ 28 18409471) rfl rfl (ao_ HT_) ?_
            exact ny_ (hJ_2_0 () _ ⟨hHeld, HK.out, BR.out⟩)
          · refine Kd.R_lit_step (Kd.int .u8) _ 5 ?hg (N := 97) ?hd (xs := ([r.f2] : List Int)) (inner := [.int .u8 r.f2]) (ok := fun k => k ≠ gk) (okp := fun k => k ≠ gk) ?hr ?hp (fun _ hk => hk) (by have := blk_lt HK.out.1; omega) (Below.refl _ _) (Nat.le_refl _) (by simp) ?_; (case hd => rfl); (case hg => rfl); (case hr => first | (go_simp; done) | (go_simp; rfl)); (case hp => exact (Reps.one (show Kd.M (Kd.int .u8) _ _ _ r.f2 [.int .u8 r.f2] from rfl) (Reps.none _ _)))
            intro s_ w21 ho hb hg_ hnew_
            clear hg_ hnew_
            have HO := Aside0.mk (Kd.R_lower ho HK.out.b.size)
            replace BR := Aside0.mk (blk_below BR.out hb)
            replace HK := Aside0.mk (HK.out.bel hb)
            clear ho hb
            refine hK.out _ _ (k3_ BR) (fun hHeld => ?_)
            clear hK K
            refine nm_ 97 ?_
            exact ny_ (hJ_1_1 s_ _ ⟨hHeld, HK.out, BR.out, HO.out⟩)
        intro hJ_1_0
        refine join_ (σ := Value) 15 (lb_ 28 20505715) (fun s_ => [(97, s_)]) (fun s_ w' => (w'.cell? ⟨gr, 0, none⟩ = some (.int .i64 r.f0) ∧ w'.cell? ⟨gr, 1, none⟩ = some (.int .i64 r.f1) ∧ w'.cell? ⟨gr, 2, none⟩ = some (.int .u8 r.f2)) ∧ KB wm w' gk (n + 0) ∧ w'.heap[gr]? = some (.cells #[.int .i64 r.f0, .int .i64 r.f1, .int .u8 r.f2] 23 (0, 0)) ∧ Kd.R (Kd.int .u8) 5 w' wm.heap.size (fun k => k ≠ gk) s_ [r.f2]) ?_ ?_
        · as_aux_lemma =>
          rintro s_ w10 ⟨hHeld, h0_, h1_, h2_⟩
          replace HK := Aside0.mk h0_; replace BR := Aside0.mk h1_; have HO := Aside0.mk h2_; clear h2_; clear h0_ h1_
          refine norm_ (a' := ?_) ?_ ?_
          rotate_left
          · simp only [putAll, Act.put, List.setIfInBounds_toArray, List.set_cons_zero, List.set_cons_succ]
            rfl
          refine two_ (i := 2) (j := 22) (Ni := some 78) (Nj := some 98) (lb_ 28 20505719) (lb_ 28 24700019) rfl rfl rfl rfl (two_of HT_.out (by kernel_rfl)) (by decide) (by decide) (fun K hK => ?_) (fun K hK => ?_)
          · refine gq_ Tryz.func19 (by kernel_rfl) rfl #[.slice A4 l4.length c4, .pointer (some ⟨gk, 0, none⟩)] (by rfl) rfl rfl ?_
            with_reducible refine (btw_at wm _ gk A4 c4 l4 (n + 0) (n + 1) (by omega) HK.out HCP.out HC4.out (by have := HNn.out; omega) (by have := HNn.out; omega) HPAD.out).mono ?_
            rw [← HyB.out]
            rintro e w101 ⟨rfl, hk, hf⟩
            refine ⟨_, rfl, ?_⟩
            replace HK := Aside0.mk hk
            replace BR := Aside0.mk (blk_kept BR.out hf NE); replace HO := Aside0.mk (Kd.R_mono (Kd.R_keptB HO.out hf (fun k hk hs => hk hs)) (fun k hk => hk.1))
            clear hk hf
            refine hK.out _ _ (k3_ BR) (fun hHeld => ?_)
            clear hK K
            refine nm_ 78 ?_
            refine pu_ 3 79 (lb_ 28 20505727) rfl rfl (ao_ HT_) ?_
            exact ny_ (hJ_1_1 s_ _ ⟨hHeld, HK.out, BR.out, HO.out⟩)
          · have hcv := own_string (P := Tryz.prog) Tryz.underlying39 Tryz.underlying5 Tryz.underlying9 (Kd.own_of_R HO.out)
            refine value_ (w1 := ?_) (v := ?_) (by rfl) rfl ?_ ?_
            rotate_left 2
            · go_simp
              constructor
              · rfl
              rfl
            clear hcv
            refine hK.out _ _ (k3_ BR) (fun hHeld => ?_)
            clear hK K
            refine nm_ 98 ?_
            exact ny_ (hJ_0_2 s_ _ ⟨hHeld, HK.out, BR.out⟩)
        intro hJ_0_1
        refine two_ (i := 2) (j := 21) (Ni := some 78) (Nj := some 97) (lb_ 28 18408567) (lb_ 28 20505715) rfl rfl rfl rfl (two_of HT_.out (by kernel_rfl)) (by decide) (by decide) (fun K hK => ?_) (fun K hK => ?_)
        · refine gq_ Tryz.func19 (by kernel_rfl) rfl #[.slice A4 l4.length c4, .pointer (some ⟨gk, 0, none⟩)] (by rfl) rfl rfl ?_
          with_reducible refine (btw_at wm _ gk A4 c4 l4 (n + 0) (n + 1) (by omega) HK.out HCP.out HC4.out (by have := HNn.out; omega) (by have := HNn.out; omega) HPAD.out).mono ?_
          rw [← HyB.out]
          rintro e w100 ⟨rfl, hk, hf⟩
          refine ⟨_, rfl, ?_⟩
          replace HK := Aside0.mk hk
          replace BR := Aside0.mk (blk_kept BR.out hf NE)
          clear hk hf
          refine hK.out _ _ (k3_ BR) (fun hHeld => ?_)
          clear hK K
          refine nm_ 78 ?_
          refine pu_ 3 79 (lb_ 28 18408575) rfl rfl (ao_ HT_) ?_
          exact ny_ (hJ_1_0 () _ ⟨hHeld, HK.out, BR.out⟩)
        · refine Kd.R_lit_step (Kd.int .u8) _ 5 ?hg (N := 97) ?hd (xs := ([r.f2] : List Int)) (inner := [.int .u8 r.f2]) (ok := fun k => k ≠ gk) (okp := fun k => k ≠ gk) ?hr ?hp (fun _ hk => hk) (by have := blk_lt HK.out.1; omega) (Below.refl _ _) (Nat.le_refl _) (by simp) ?_; (case hd => rfl); (case hg => rfl); (case hr => first | (go_simp; done) | (go_simp; rfl)); (case hp => exact (Reps.one (show Kd.M (Kd.int .u8) _ _ _ r.f2 [.int .u8 r.f2] from rfl) (Reps.none _ _)))
          intro s_ w20 ho hb hg_ hnew_
          clear hg_ hnew_
          have HO := Aside0.mk (Kd.R_lower ho HK.out.b.size)
          replace BR := Aside0.mk (blk_below BR.out hb)
          replace HK := Aside0.mk (HK.out.bel hb)
          clear ho hb
          refine hK.out _ _ (k3_ BR) (fun hHeld => ?_)
          clear hK K
          refine nm_ 97 ?_
          exact ny_ (hJ_0_1 s_ _ ⟨hHeld, HK.out, BR.out, HO.out⟩)
      as_aux_lemma =>
      rintro s_ w10 ⟨hHeld, h0_, h1_⟩
      replace HK := Aside0.mk h0_; clear h0_ h1_ BR
      refine norm_ (a' := ?_) ?_ ?_
      rotate_left
      · simp only [putAll, Act.put, List.setIfInBounds_toArray, List.set_cons_zero, List.set_cons_succ]
        rfl
      refine pu_ 27 13 (lb_ 28 268435455) rfl rfl (ao_ HT_) ?_
      refine done_ (done_of HT_.out (by kernel_rfl)) ?_
      have HS2 : Aside0 ((rowP l4 s n r).size ≤ 200 + 100 * i + 99) := ⟨by rw [← HYr.out]; simp only [ByteArray.size_append, sz32, sz9]; have := HZ2.out; have := HSs.out; omega⟩
      rw [HYr.out]
      have HE2 := Aside0.mk (rows_step l4 s n T i HLT.out)
      rw [← Hr.out] at HE2
      clear gq0b gq0c gq0d gp1b gp1c gp1d gq1b gq1c gq1d gp2b gp2c gp2d gq2b gq2c gq2d gp3b gp3c gp3d gq3b gq3c gq3d gp4b gp4c gp4d gq4b gq4c gq4d gp5b gp5c gp5d gq5b gq5c gq5d gp6b gp6c gp6d gq6b gq6c gq6d gp7b gp7c gp7d gq7b gq7c gq7d
      clear HYr HZ2 HyB Hy1 Hy3 Hy2 Hy5 HT_ HW_ hHeld Hr
      obtain ⟨z, hz⟩ : ∃ z, z = rowP l4 s n r := ⟨_, rfl⟩
      rw [← hz] at HE2 HS2 ⊢
      clear hz
      obtain ⟨mc0, mc1, mc2, mc3, mf0, mf1, mf2, mf3⟩ := c4_ ⟨blk_below BM4.out HK.out.b⟩
      have hlt := HLT.out
      have hle := HTL.out
      by_cases hl : i + 1 < T.length
      · as_aux_lemma =>
        have p1 := eq_true (show (i : Int) + 1 < (T.length : Int) by omega)
        have p2 : decide ((i : Int) + 1 < (T.length : Int)) = true := decide_eq_true (by omega)
        have zs : z.size + 1 ≤ 9223372036854775807 := by have := HS2.out; omega
        have zb := eq_true zs; have zc := decide_eq_true zs; have zd : (9223372036854775807 < z.size + 1) = False := eq_false (Nat.not_lt.2 zs)
        clear zs
        have hwi : wrap64 ((i : Int) + 1) = (i : Int) + 1 := by unfold wrap64; omega
        go_wp2
        clear hwi p1 p2 zb zc zd
        go_roundw
        case rel =>
          refine ⟨i + 1, z ++ (⟨#[10]⟩ : ByteArray), by omega, by go_num, rfl, ⟨?_⟩, ⟨?_⟩, ⟨?_⟩⟩
          · have h2 := HE2.out
            rw [if_pos hl, HE.out] at h2
            rw [h2]
            congr 1
            have := Hn.out; omega
          · rw [ByteArray.size_append, sz10]; have := HS2.out; omega
          · have h2 := HK.out
            rw [show n + 5 = 5 + 5 * ((i + 1 : Nat) : Int) from by have := Hn.out; omega] at h2
            exact h2
        case measure => simp [intOf]; omega
      · as_aux_lemma =>
        have p1 := eq_false (show ¬ (i : Int) + 1 < (T.length : Int) by omega)
        have p2 : decide ((i : Int) + 1 < (T.length : Int)) = false := decide_eq_false (by omega)
        have hwi : wrap64 ((i : Int) + 1) = (i : Int) + 1 := by unfold wrap64; omega
        go_wp2
        clear hwi p1 p2
        go_roundw
        case rel =>
          refine ⟨i + 1, z, by omega, by go_num, rfl, ⟨?_⟩, ⟨?_⟩, ⟨?_⟩⟩
          · have h2 := HE2.out
            rw [if_neg hl, HE.out] at h2
            rw [h2, List.drop_eq_nil_of_le (by omega)]; rfl
          · have := HS2.out; omega
          · have h2 := HK.out
            rw [show n + 5 = 5 + 5 * ((i + 1 : Nat) : Int) from by have := Hn.out; omega] at h2
            exact h2
        case measure => simp [intOf]; omega
    · as_aux_lemma =>
      obtain rfl : i = T.length := by omega
      have q3 : decide ((T.length : Int) < (T.length : Int)) = false := decide_eq_false (by omega)
      have hE := HE.out
      rw [List.drop_eq_nil_of_le (Nat.le_refl _)] at hE
      replace hE : s = rowsP l4 s00 5 T := hE
      have HPs : Aside0 (maptext_Parse.f kP s = some (pos, pass, 45, T, 0)) := ⟨by rw [hE, ← HS00.out]; exact HP.out⟩
      clear hE HE
      go_upto_region 15 with (first
        | (go_at_call 11; (with_reducible refine (maptext_Parse.calls kP s pos pass 45 T 0 _ HPs.out (HTm.out.below HK.out.b)).mono ?_); rintro e w11 ⟨v3_, rfl, ho, hb⟩; obtain ⟨Ap, cp, rfl⟩ := Kd.R_slice ho; have HOp := Aside0.mk (Kd.R_lower ho HK.out.b.size); replace HK := Aside0.mk (HK.out.bel hb); clear ho hb mc0 mc1 mc2 mc3 mf0 mf1 mf2 mf3)
        | ((with_reducible refine gate_dst (N := 16) rfl ?_); refine box_e 16 #[.int .i64 0, .int .i64 0, .int .u8 0, .slice none 0 0] 26 ?_; intro gx hg w12 hbox hb; have BX0 := Aside0.mk hbox; have NE : gk ≠ gx := (by have := blk_lt HK.out.1; omega); have NE2 : gm ≠ gx := (by have := blk_lt (blk_below BM4.out HK.out.b); omega); have GX := Aside0.mk (show wm.heap.size ≤ gx from by rw [hg]; exact HK.out.b.size); have HOx : Aside0 (Kd.R k23 23 w12 wm.heap.size (fun k => k ≠ gx) (.slice Ap T.length cp) T) := ⟨Kd.R_mono (Kd.R_below (Kd.R_mono (Kd.R_bound HOp.out) (fun k hk => (show k ≠ gx from by have := hk.2.2.1; omega))) hb) (fun k hk => hk)⟩; replace HK := Aside0.mk (HK.out.bel hb); clear hg hbox hb HOp; obtain ⟨xc0, xc1, xc2, xc3, xf0, xf1, xf2, xf3⟩ := c4_ BX0))
      generalize hwx : World.setCell _ _ _ = w13
      have BX : Aside0 (w13.heap[gx]? = some (.cells #[.int .i64 pos, .int .i64 pass, .int .u8 45, .slice Ap T.length cp] 26 (0, 0))) := ⟨by rw [← hwx]; exact blk_put (blk_put (blk_put (blk_put BX0.out 0 _ rfl) 1 _ rfl) 2 _ rfl) 3 _ rfl⟩
      replace HK : Aside0 (KB wm w13 gk (5 + 5 * (T.length : Int))) := ⟨by rw [← hwx]; exact (((HK.out.far GX.out NE 0 _).far GX.out NE 1 _).far GX.out NE 2 _).far GX.out NE 3 _⟩
      replace HOx : Aside0 (Kd.R k23 23 w13 wm.heap.size (fun k => k ≠ gx) (.slice Ap T.length cp) T) := ⟨by rw [← hwx]; exact Kd.R_far (Kd.R_far (Kd.R_far (Kd.R_far HOx.out (fun k hk => hk) _) (fun k hk => hk) _) (fun k hk => hk) _) (fun k hk => hk) _⟩
      clear hwx BX0 xc0 xc1 xc2 xc3 xf0 xf1 xf2 xf3
      have HCx := Aside0.mk (Kd.R_reads' HOx.out).2.2
      have HCy := Aside0.mk (Kd.R_reads' HOx.out).2.1
      obtain ⟨mc0, mc1, mc2, mc3, mf0, mf1, mf2, mf3⟩ := c4_ ⟨blk_below BM4.out HK.out.b⟩
      obtain ⟨xc0, xc1, xc2, xc3, xf0, xf1, xf2, xf3⟩ := c4_ BX
      go_wp2_with (first
        | (go_at_call 12; (with_reducible refine (salvorref16_SameMap.calls kS pos pass 45 Ap cp T pos pass 45 At ct T true _ HCx.out HCy.out (Kd.C_below HCT.out HK.out.b) HCt.out HS.out).mono ?_); rintro e w14 ⟨rfl, hb⟩; replace HK := Aside0.mk (HK.out.bel hb); clear hb mc0 mc1 mc2 mc3 mf0 mf1 mf2 mf3 xc0 xc1 xc2 xc3 xf0 xf1 xf2 xf3)
        | (go_at_call 3; (with_reducible refine (salvorlaw17_MapRuns.calls kR true _ HRU.out (HTm.out.below HK.out.b)).mono ?_); rintro e w15 ⟨rfl, hb⟩; replace HK := Aside0.mk (HK.out.bel hb); clear hb))
      go_ret
      exact ⟨rfl, below_step HBm.out HK.out.b⟩
end Go.Proofs.YtlcablcpcbmgeaaGreatDoor.P
