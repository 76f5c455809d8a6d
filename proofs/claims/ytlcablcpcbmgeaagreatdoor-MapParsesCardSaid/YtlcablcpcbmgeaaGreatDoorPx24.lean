/- Laid by a program of this session's own (wip/wprint.py, over the kit's print.py): functions of the given program as plain Lean functions, and that the program's calls come to their answers. -/
import Derived.Test.YtlcablcpcbmgeaaGreatDoorPx0
import Derived.Test.YtlcablcpcbmgeaaGreatDoorPx23
namespace Go.Proofs.YtlcablcpcbmgeaaGreatDoor.P
open Go.RowKit Go.Proofs.YtlcablcpcbmgeaaGreatDoorW.PrintWords Go.Proofs.YtlcablcpcbmgeaaGreatDoorW.PrintLast Go.Proofs.YtlcablcpcbmgeaaGreatDoorW.PrintMore
attribute [local go_sem] max2_int min2_int max_two min_two max_three min_three max_four min_four   -- for this text's walks alone
set_option linter.unusedVariables false
set_option linter.unusedSimpArgs false

/-! ### salvorref16_MayRegions: function 38 -/
mutual
def salvorref16_MayRegions.l0 : Nat → List (S23) → Int → Int → Option (Bool)
 | 0, _, _, _ => none
 | k + 1, x0, x3, x4 => if x4 < (x0.length : Int) then (if 0 ≤ x4 then (if ((rd_T23 x0 x4).f0) = x3 then (if ((rd_T23 x0 x4).f1) < 1 then (salvorref16_MayRegions.j1 k x0 x3 x4 true) else (if ((rd_T23 x0 x4).f1) > (wrap64 (1099511627776 - x3)) then (salvorref16_MayRegions.j1 k x0 x3 x4 true) else ((salvorref16_status.f ((rd_T23 x0 x4).f2)).bind fun t195 => (if t195 = true then (if x4 > 0 then (if 0 ≤ (wrap64 (x4 - 1)) then (if (wrap64 (x4 - 1)) < (x0.length : Int) then (salvorref16_MayRegions.j1 k x0 x3 x4 (((rd_T23 x0 (wrap64 (x4 - 1))).f2) == ((rd_T23 x0 x4).f2))) else (none)) else (none)) else (salvorref16_MayRegions.j1 k x0 x3 x4 false)) else (salvorref16_MayRegions.j1 k x0 x3 x4 true))))) else (salvorref16_MayRegions.j1 k x0 x3 x4 true)) else (none)) else (some true)
def salvorref16_MayRegions.j1 : Nat → List (S23) → Int → Int → Bool → Option (Bool)
 | 0, _, _, _, _ => none
 | k + 1, x0, x3, x4, x62 => if x62 = true then (some false) else (if 0 ≤ x4 then (if x4 < (x0.length : Int) then (salvorref16_MayRegions.l0 k x0 (wrap64 (x3 + ((rd_T23 x0 x4).f1))) (wrap64 (x4 + 1))) else (none)) else (none))
end
def salvorref16_MayRegions.f (k : Nat) (l0 : List (S23)) : Option (Bool) := salvorref16_MayRegions.l0 k l0 0 0
theorem salvorref16_MayRegions.mono_l : ∀ k, (∀ y0 y1 y2, LeO (salvorref16_MayRegions.l0 k y0 y1 y2) (salvorref16_MayRegions.l0 (k + 1) y0 y1 y2)) ∧ (∀ y0 y1 y2 y3, LeO (salvorref16_MayRegions.j1 k y0 y1 y2 y3) (salvorref16_MayRegions.j1 (k + 1) y0 y1 y2 y3))
 | 0 => ⟨fun _ _ _ r h => by simp [salvorref16_MayRegions.l0] at h, fun _ _ _ _ r h => by simp [salvorref16_MayRegions.j1] at h⟩
 | k + 1 => by
  obtain ⟨ih0, ih1⟩ := salvorref16_MayRegions.mono_l k
  refine ⟨?_, ?_⟩
  ·intro y0 y1 y2
   unfold salvorref16_MayRegions.l0
   repeat' first
   | (with_reducible exact ih0 _ _ _)
   | (with_reducible exact ih1 _ _ _ _)
   | (with_reducible exact LeO.refl _)
   | (with_reducible exact LeO.none _)
   | (with_reducible refine LeO.ite ?_ ?_)
   | (with_reducible refine LeO.bind ?_ (fun _ => ?_))
   | exact ih0 _ _ _
   | exact ih1 _ _ _ _
   | exact LeO.none _
   | refine LeO.ite ?_ ?_
   | refine LeO.bind ?_ (fun _ => ?_)
  ·intro y0 y1 y2 y3
   unfold salvorref16_MayRegions.j1
   repeat' first
   | (with_reducible exact ih0 _ _ _)
   | (with_reducible exact ih1 _ _ _ _)
   | (with_reducible exact LeO.refl _)
   | (with_reducible exact LeO.none _)
   | (with_reducible refine LeO.ite ?_ ?_)
   | (with_reducible refine LeO.bind ?_ (fun _ => ?_))
   | exact ih0 _ _ _
   | exact ih1 _ _ _ _
   | exact LeO.none _
   | refine LeO.ite ?_ ?_
   | refine LeO.bind ?_ (fun _ => ?_)
theorem salvorref16_MayRegions.mono : ∀ a0 k, LeO (salvorref16_MayRegions.f k a0) (salvorref16_MayRegions.f (k + 1) a0) := by
 intro a0 k
 obtain ⟨ih0, ih1⟩ := salvorref16_MayRegions.mono_l k
 unfold salvorref16_MayRegions.f
 repeat' first
   | (with_reducible exact ih0 _ _ _)
   | (with_reducible exact ih1 _ _ _ _)
   | (with_reducible exact LeO.refl _)
   | (with_reducible exact LeO.none _)
   | (with_reducible refine LeO.ite ?_ ?_)
   | (with_reducible refine LeO.bind ?_ (fun _ => ?_))
   | exact ih0 _ _ _
   | exact ih1 _ _ _ _
   | exact LeO.none _
   | refine LeO.ite ?_ ?_
   | refine LeO.bind ?_ (fun _ => ?_)
def salvorref16_MayRegions.T5 : Bool × List (List Nat × List Nat) := (true, [([], []), ([], []), ([0, 1], [0, 1]), ([2], [2]), ([3], [3]), ([], []), ([4, 5], [4, 5]), ([6], [6]), ([7], [7]), ([7], [7]), ([8, 9, 7], [7, 8, 9]), ([10, 7], [7, 10]), ([11, 7], [7, 11]), ([12, 7], [7, 12]), ([7, 13], [7, 13]), ([14, 7], [14]), ([15], [15]), ([15], [15]), ([16, 17, 15], [15, 16, 17]), ([18, 15], [15, 18]), ([19, 15], [15, 19]), ([15], [15]), ([21, 15], [15, 21]), ([20, 22, 15], [15, 20, 22]), ([15, 23], [15, 23]), ([24, 15], [24]), ([25], [25]), ([25], [25]), ([26, 27, 25], [25, 26, 27]), ([28, 25], [25, 28]), ([29, 25], [25, 29]), ([30, 25, 25], [25, 30]), ([31, 25], [25, 31]), ([25, 32], [25, 32]), ([33, 31], [33]), ([34], [34]), ([35, 34], [34, 35]), ([36, 34, 34], [34, 36]), ([37], [37]), ([37], [37]), ([39, 37], [37, 39]), ([38, 40, 37], [37, 38, 40]), ([41, 37], [37, 41]), ([42, 37], [37, 42]), ([37], [37]), ([37], [37]), ([44, 45, 37], [37, 44, 45]), ([46, 37], [37, 46]), ([47, 37], [37, 47]), ([43, 48, 37], [37, 43, 48]), ([37, 49, 34], [34, 37, 49]), ([34, 50], [34, 50])])
def salvorref16_MayRegions.B5 : List Nat := [0, 0, 3, 7, 15, 0, 63, 127, 255, 255, 1023, 2047, 4095, 8191, 16383, 32767, 65535, 65535, 262143, 524287, 1048575, 65535, 2162687, 8388607, 16777215, 33554431, 67108863, 67108863, 268435455, 536870911, 1073741823, 2147483647, 4294967295, 8589934591, 17179869183, 34359738367, 68719476735, 137438953471, 274877906943, 274877906943, 824633720831, 2199023255551, 4398046511103, 8796093022207, 274877906943, 274877906943, 53051436040191, 123420180217855, 264157668573183, 562949953421311, 1125899906842623, 2251799813685247]
theorem salvorref16_MayRegions.tab5 : rtab .any (opsOf Tryz.f38 5) = salvorref16_MayRegions.T5 := by kernel_rfl
theorem salvorref16_MayRegions.bits5 : waitsOk salvorref16_MayRegions.T5.2 salvorref16_MayRegions.B5 = true := by kernel_rfl
set_option maxHeartbeats 8000000 in
set_option maxRecDepth 100000 in
theorem salvorref16_MayRegions.calls (k : Nat) (A0 : Option Addr) (c0 : Nat) (l0 : List (S23)) (r : Bool) (w : World) (hr0 : Kd.C k23 w A0 l0.length l0) (hc0 : l0.length ≤ c0) (h : salvorref16_MayRegions.f k l0 = some r) :
  Calls Tryz.prog 38 #[.slice A0 l0.length c0] w fun e w' => e = .returned (.bool r) ∧ Below w.heap.size w w' := by
 have HR0 := Aside0.mk hr0
 have HC0 := Aside0.mk hc0
 clear hr0 hc0
 have HB := Aside0.mk (Below.refl w.heap.size w)
 have H : (salvorref16_MayRegions.l0 k l0 0 0) = some r := h
 clear h
 have H' := Aside0.mk H
 clear H
 go_enter Tryz.func38, Tryz.ntmps38
 go_wp2
 go_loopg [3, 4] k (fun kq v3 v4 w' => ∃ (x3_1 : Int) (x4_1 : Int), v3 = .int .i64 x3_1 ∧ v4 = .int .i64 x4_1 ∧ Aside0 (salvorref16_MayRegions.l0 kq l0 x3_1 x4_1 = some r) ∧ Aside0 (kq ≤ k) ∧ Aside0 (Below w.heap.size w w'))
 case atStart => exact ⟨(0), (0), (by first | rfl | (simp; done) | (simp [*]; done)), (by first | rfl | (simp; done) | (simp [*]; done)), H', ⟨Nat.le_refl _⟩, ⟨bh_ HB⟩⟩
 case round =>
  clear H'
  obtain ⟨x3_1, x4_1, rfl, rfl, HA, HK1, HB⟩ := hrel
  cases gk with
  | zero => exact absurd HA.out (by simp [salvorref16_MayRegions.l0])
  | succ k1 =>
   have H := HA.out
   clear HA
   simp only [salvorref16_MayRegions.l0] at H
   by_cases c2 : x4_1 < (l0.length : Int)
   ·rw [if_pos c2] at H
    have c2b0 : decide (x4_1 < (l0.length : Int)) = true := decide_eq_true c2
    clear c2
    have HC3 := Aside0.mk H
    clear H
    go_upto_region 5 with (fail)
    go_cut [62] (fun v62 wc => ∃ (kq : Nat) (x62_2 : Bool), v62 = .bool x62_2 ∧ Aside0 (salvorref16_MayRegions.j1 kq l0 x3_1 x4_1 x62_2 = some r) ∧ Aside0 (kq ≤ k1) ∧ Aside0 (Below w.heap.size w wc))
    case first =>
     have H := HC3.out
     clear HC3
     by_cases c4 : 0 ≤ x4_1
     ·rw [if_pos c4] at H
      have c4b0 : decide (0 ≤ x4_1) = true := decide_eq_true c4
      clear c4
      (first | rw [c4b0] | (simp only [i64_w, i32_w]; rw [c4b0]) | skip)
      by_cases c5 : ((rd_T23 l0 x4_1).f0) = x3_1
      ·rw [if_pos c5] at H
       have c5b0 : (((rd_T23 l0 x4_1).f0) == x3_1) = true := beq_iff_eq.mpr c5
       have c5b1 : (((rd_T23 l0 x4_1).f0) != x3_1) = false := bne_eq_false_iff_eq.mpr c5
       clear c5
       by_cases c6 : ((rd_T23 l0 x4_1).f1) < 1
       ·rw [if_pos c6] at H
        have c6b0 : decide (((rd_T23 l0 x4_1).f1) < 1) = true := decide_eq_true c6
        clear c6
        have H' := Aside0.mk H
        clear H
        try go_wp2
        replace HB := Aside0.mk (below_drew1 HB.out)
        have p191 : 0 ≤ (x4_1 : Int) := of_decide_eq_true (by first | (with_reducible assumption) | assumption)
        have q191 : x4_1 < (l0.length : Int) := of_decide_eq_true (by first | (with_reducible assumption) | assumption)
        obtain ⟨ad191, e191, hx191_0, hx191_1, hx191_2⟩ := at_T23 HR0.out x4_1 p191 q191
        have hw191_2 := hx191_2
        have hw191_1 := hx191_1
        have hw191_0 := hx191_0
        cases e191
        replace hx191_0 := (HB.out.cell (World.block_lt_of_cell? w _ hx191_0)).trans hx191_0
        replace hx191_1 := (HB.out.cell (World.block_lt_of_cell? w _ hx191_1)).trans hx191_1
        replace hx191_2 := (HB.out.cell (World.block_lt_of_cell? w _ hx191_2)).trans hx191_2
        replace p191 := eq_true p191
        replace q191 := eq_true q191
        have p192 : 0 ≤ (x4_1 : Int) := of_decide_eq_true (by first | (with_reducible assumption) | assumption)
        have q192 : x4_1 < (l0.length : Int) := of_decide_eq_true (by first | (with_reducible assumption) | assumption)
        obtain ⟨ad192, e192, hx192_0, hx192_1, hx192_2⟩ := at_T23 HR0.out x4_1 p192 q192
        have hw192_2 := hx192_2
        have hw192_1 := hx192_1
        have hw192_0 := hx192_0
        obtain rfl : ad191 = ad192 := (by injection e192)
        replace hx192_0 := (HB.out.cell (World.block_lt_of_cell? w _ hx192_0)).trans hx192_0
        replace hx192_1 := (HB.out.cell (World.block_lt_of_cell? w _ hx192_1)).trans hx192_1
        replace hx192_2 := (HB.out.cell (World.block_lt_of_cell? w _ hx192_2)).trans hx192_2
        replace p192 := eq_true p192
        replace q192 := eq_true q192
        refine start_ (n := 52) (S := fun w' => w'.cell? (ad191.add ((x4_1).toNat * 3)) = some (.int .i64 ((rd_T23 l0 x4_1).f0)) ∧ w'.cell? ⟨(ad191.add ((x4_1).toNat * 3)).block, (ad191.add ((x4_1).toNat * 3)).off + 1, none⟩ = some (.int .i64 ((rd_T23 l0 x4_1).f1)) ∧ w'.cell? ⟨(ad191.add ((x4_1).toNat * 3)).block, (ad191.add ((x4_1).toNat * 3)).off + 2, none⟩ = some (.int .u8 ((rd_T23 l0 x4_1).f2)) ∧ w'.cell? (ad191.add ((x4_1).toNat * 3)) = some (.int .i64 ((rd_T23 l0 x4_1).f0)) ∧ w'.cell? ⟨(ad191.add ((x4_1).toNat * 3)).block, (ad191.add ((x4_1).toNat * 3)).off + 1, none⟩ = some (.int .i64 ((rd_T23 l0 x4_1).f1)) ∧ w'.cell? ⟨(ad191.add ((x4_1).toNat * 3)).block, (ad191.add ((x4_1).toNat * 3)).off + 2, none⟩ = some (.int .u8 ((rd_T23 l0 x4_1).f2))) (ds := []) #[false, false, false, false, false, false, false, false, false, false, false, false, false, false, false, false, false, false, false, false, false, false, false, false, false, false, false, false, false, false, false, false, false, false, false, false, false, false, false, false, false, false, false, false, false, false, false, false, false, false, false, false] (by kernel_rfl) rfl rfl ⟨((HB.out.cell (World.block_lt_of_cell? w _ hw191_0)).trans hw191_0), ((HB.out.cell (World.block_lt_of_cell? w _ hw191_1)).trans hw191_1), ((HB.out.cell (World.block_lt_of_cell? w _ hw191_2)).trans hw191_2), ((HB.out.cell (World.block_lt_of_cell? w _ hw192_0)).trans hw192_0), ((HB.out.cell (World.block_lt_of_cell? w _ hw192_1)).trans hw192_1), ((HB.out.cell (World.block_lt_of_cell? w _ hw192_2)).trans hw192_2)⟩ (fun hHeld => ?_); refine with_tabW salvorref16_MayRegions.tab5 salvorref16_MayRegions.bits5 (fun HT_ HW_ => ?_)
        generalize wr.drew = w7 at HB hx191_0 hx191_1 hx191_2 hx192_0 hx192_1 hx192_2 hHeld ⊢
        refine pu_ 0 11 (lb_ 52 1) rfl rfl (ao_ HT_) ?_
        refine pu_ 1 12 (lb_ 52 3) rfl rfl (ao_ HT_) ?_
        refine pu_ 2 13 (lb_ 52 7) rfl rfl (ao_ HT_) ?_
        refine pu_ 3 14 (lb_ 52 15) rfl rfl (ao_ HT_) ?_
        refine pu_ 5 16 (lb_ 52 47) rfl rfl (ao_ HT_) ?_
        refine tk_ 4 15 (lb_ 52 63) rfl rfl (take_ofW HT_.out HW_.out (by kernel_rfl)) hHeld ?_
        refine pu_ 6 17 (lb_ 52 127) rfl rfl (ao_ HT_) ?_
        refine pu_ 7 18 (lb_ 52 255) rfl rfl (ao_ HT_) ?_
        refine pu_ 8 19 (lb_ 52 511) rfl rfl (ao_ HT_) ?_
        refine pu_ 9 20 (lb_ 52 1023) rfl rfl (ao_ HT_) ?_
        refine pu_ 10 21 (lb_ 52 2047) rfl rfl (ao_ HT_) ?_
        refine pu_ 11 22 (lb_ 52 4095) rfl rfl (ao_ HT_) ?_
        refine tk_ 12 23 (lb_ 52 8191) rfl rfl (take_ofW HT_.out HW_.out (by kernel_rfl)) hHeld ?_
        refine pu_ 13 24 (lb_ 52 16383) rfl rfl (ao_ HT_) ?_
        refine pu_ 14 25 (lb_ 52 32767) rfl rfl (ao_ HT_) ?_
        refine pu_ 15 26 (lb_ 52 65535) rfl rfl (ao_ HT_) ?_
        refine pd_ 16 27 (lb_ 52 131071) rfl rfl (ao_ HT_) ?_
        refine pd_ 17 28 (lb_ 52 262143) rfl rfl (ao_ HT_) ?_
        refine pd_ 18 29 (lb_ 52 524287) rfl rfl (ao_ HT_) ?_
        refine pd_ 19 30 (lb_ 52 1048575) rfl rfl (ao_ HT_) ?_
        refine pd_ 20 31 (lb_ 52 2097151) rfl rfl (ao_ HT_) ?_
        refine pd_ 21 32 (lb_ 52 4194303) rfl rfl (ao_ HT_) ?_
        refine pd_ 22 33 (lb_ 52 8388607) rfl rfl (ao_ HT_) ?_
        refine pd_ 23 34 (lb_ 52 16777215) rfl rfl (ao_ HT_) ?_
        refine pu_ 24 35 (lb_ 52 33554431) rfl rfl (ao_ HT_) ?_
        refine pu_ 25 36 (lb_ 52 67108863) rfl rfl (ao_ HT_) ?_
        refine pd_ 26 37 (lb_ 52 134217727) rfl rfl (ao_ HT_) ?_
        refine pd_ 27 38 (lb_ 52 268435455) rfl rfl (ao_ HT_) ?_
        refine pd_ 28 39 (lb_ 52 536870911) rfl rfl (ao_ HT_) ?_
        refine pd_ 29 40 (lb_ 52 1073741823) rfl rfl (ao_ HT_) ?_
        refine pd_ 30 41 (lb_ 52 2147483647) rfl rfl (ao_ HT_) ?_
        refine pd_ 31 42 (lb_ 52 4294967295) rfl rfl (ao_ HT_) ?_
        refine pd_ 32 43 (lb_ 52 8589934591) rfl rfl (ao_ HT_) ?_
        refine pu_ 33 44 (lb_ 52 17179869183) rfl rfl (ao_ HT_) ?_
        refine pu_ 34 45 (lb_ 52 34359738367) rfl rfl (ao_ HT_) ?_
        refine pd_ 35 46 (lb_ 52 68719476735) rfl rfl (ao_ HT_) ?_
        refine pd_ 36 47 (lb_ 52 137438953471) rfl rfl (ao_ HT_) ?_
        refine pd_ 37 48 (lb_ 52 274877906943) rfl rfl (ao_ HT_) ?_
        refine pd_ 38 49 (lb_ 52 549755813887) rfl rfl (ao_ HT_) ?_
        refine pd_ 39 50 (lb_ 52 1099511627775) rfl rfl (ao_ HT_) ?_
        refine pd_ 40 51 (lb_ 52 2199023255551) rfl rfl (ao_ HT_) ?_
        refine pd_ 41 52 (lb_ 52 4398046511103) rfl rfl (ao_ HT_) ?_
        refine pd_ 42 53 (lb_ 52 8796093022207) rfl rfl (ao_ HT_) ?_
        refine pd_ 43 54 (lb_ 52 17592186044415) rfl rfl (ao_ HT_) ?_
        refine pd_ 44 55 (lb_ 52 35184372088831) rfl rfl (ao_ HT_) ?_
        refine pd_ 45 56 (lb_ 52 70368744177663) rfl rfl (ao_ HT_) ?_
        refine pd_ 46 57 (lb_ 52 140737488355327) rfl rfl (ao_ HT_) ?_
        refine pd_ 47 58 (lb_ 52 281474976710655) rfl rfl (ao_ HT_) ?_
        refine pd_ 48 59 (lb_ 52 562949953421311) rfl rfl (ao_ HT_) ?_
        refine pd_ 49 60 (lb_ 52 1125899906842623) rfl rfl (ao_ HT_) ?_
        refine pd_ 50 61 (lb_ 52 2251799813685247) rfl rfl (ao_ HT_) ?_
        refine pu_ 51 62 (lb_ 52 4503599627370495) rfl rfl (ao_ HT_) ?_
        refine done_ (done_of HT_.out (by kernel_rfl)) ?_
        try go_wp2
        go_meet
        case rel => exact ⟨_, (true), (by first | rfl | (simp; done) | (simp [*]; done)), H', ⟨by have := HK1.out; first | omega | exact Nat.le_refl _⟩, ⟨bh_ HB⟩⟩
       ·rw [if_neg c6] at H
        have c6b0 : decide (((rd_T23 l0 x4_1).f1) < 1) = false := decide_eq_false c6
        clear c6
        by_cases c8 : ((rd_T23 l0 x4_1).f1) > (wrap64 (1099511627776 - x3_1))
        ·rw [if_pos c8] at H
         have c8b0 : decide ((wrap64 (1099511627776 - x3_1)) < ((rd_T23 l0 x4_1).f1)) = true := decide_eq_true c8
         clear c8
         have H' := Aside0.mk H
         clear H
         try go_wp2
         replace HB := Aside0.mk (below_drew1 HB.out)
         have p191 : 0 ≤ (x4_1 : Int) := of_decide_eq_true (by first | (with_reducible assumption) | assumption)
         have q191 : x4_1 < (l0.length : Int) := of_decide_eq_true (by first | (with_reducible assumption) | assumption)
         obtain ⟨ad191, e191, hx191_0, hx191_1, hx191_2⟩ := at_T23 HR0.out x4_1 p191 q191
         have hw191_2 := hx191_2
         have hw191_1 := hx191_1
         have hw191_0 := hx191_0
         cases e191
         replace hx191_0 := (HB.out.cell (World.block_lt_of_cell? w _ hx191_0)).trans hx191_0
         replace hx191_1 := (HB.out.cell (World.block_lt_of_cell? w _ hx191_1)).trans hx191_1
         replace hx191_2 := (HB.out.cell (World.block_lt_of_cell? w _ hx191_2)).trans hx191_2
         replace p191 := eq_true p191
         replace q191 := eq_true q191
         have p192 : 0 ≤ (x4_1 : Int) := of_decide_eq_true (by first | (with_reducible assumption) | assumption)
         have q192 : x4_1 < (l0.length : Int) := of_decide_eq_true (by first | (with_reducible assumption) | assumption)
         obtain ⟨ad192, e192, hx192_0, hx192_1, hx192_2⟩ := at_T23 HR0.out x4_1 p192 q192
         have hw192_2 := hx192_2
         have hw192_1 := hx192_1
         have hw192_0 := hx192_0
         obtain rfl : ad191 = ad192 := (by injection e192)
         replace hx192_0 := (HB.out.cell (World.block_lt_of_cell? w _ hx192_0)).trans hx192_0
         replace hx192_1 := (HB.out.cell (World.block_lt_of_cell? w _ hx192_1)).trans hx192_1
         replace hx192_2 := (HB.out.cell (World.block_lt_of_cell? w _ hx192_2)).trans hx192_2
         replace p192 := eq_true p192
         replace q192 := eq_true q192
         have p193 : 0 ≤ (x4_1 : Int) := of_decide_eq_true (by first | (with_reducible assumption) | assumption)
         have q193 : x4_1 < (l0.length : Int) := of_decide_eq_true (by first | (with_reducible assumption) | assumption)
         obtain ⟨ad193, e193, hx193_0, hx193_1, hx193_2⟩ := at_T23 HR0.out x4_1 p193 q193
         have hw193_2 := hx193_2
         have hw193_1 := hx193_1
         have hw193_0 := hx193_0
         obtain rfl : ad191 = ad193 := (by injection e193)
         replace hx193_0 := (HB.out.cell (World.block_lt_of_cell? w _ hx193_0)).trans hx193_0
         replace hx193_1 := (HB.out.cell (World.block_lt_of_cell? w _ hx193_1)).trans hx193_1
         replace hx193_2 := (HB.out.cell (World.block_lt_of_cell? w _ hx193_2)).trans hx193_2
         replace p193 := eq_true p193
         replace q193 := eq_true q193
         refine start_ (n := 52) (S := fun w' => w'.cell? (ad191.add ((x4_1).toNat * 3)) = some (.int .i64 ((rd_T23 l0 x4_1).f0)) ∧ w'.cell? ⟨(ad191.add ((x4_1).toNat * 3)).block, (ad191.add ((x4_1).toNat * 3)).off + 1, none⟩ = some (.int .i64 ((rd_T23 l0 x4_1).f1)) ∧ w'.cell? ⟨(ad191.add ((x4_1).toNat * 3)).block, (ad191.add ((x4_1).toNat * 3)).off + 2, none⟩ = some (.int .u8 ((rd_T23 l0 x4_1).f2)) ∧ w'.cell? (ad191.add ((x4_1).toNat * 3)) = some (.int .i64 ((rd_T23 l0 x4_1).f0)) ∧ w'.cell? ⟨(ad191.add ((x4_1).toNat * 3)).block, (ad191.add ((x4_1).toNat * 3)).off + 1, none⟩ = some (.int .i64 ((rd_T23 l0 x4_1).f1)) ∧ w'.cell? ⟨(ad191.add ((x4_1).toNat * 3)).block, (ad191.add ((x4_1).toNat * 3)).off + 2, none⟩ = some (.int .u8 ((rd_T23 l0 x4_1).f2)) ∧ w'.cell? (ad191.add ((x4_1).toNat * 3)) = some (.int .i64 ((rd_T23 l0 x4_1).f0)) ∧ w'.cell? ⟨(ad191.add ((x4_1).toNat * 3)).block, (ad191.add ((x4_1).toNat * 3)).off + 1, none⟩ = some (.int .i64 ((rd_T23 l0 x4_1).f1)) ∧ w'.cell? ⟨(ad191.add ((x4_1).toNat * 3)).block, (ad191.add ((x4_1).toNat * 3)).off + 2, none⟩ = some (.int .u8 ((rd_T23 l0 x4_1).f2))) (ds := []) #[false, false, false, false, false, false, false, false, false, false, false, false, false, false, false, false, false, false, false, false, false, false, false, false, false, false, false, false, false, false, false, false, false, false, false, false, false, false, false, false, false, false, false, false, false, false, false, false, false, false, false, false] (by kernel_rfl) rfl rfl ⟨((HB.out.cell (World.block_lt_of_cell? w _ hw191_0)).trans hw191_0), ((HB.out.cell (World.block_lt_of_cell? w _ hw191_1)).trans hw191_1), ((HB.out.cell (World.block_lt_of_cell? w _ hw191_2)).trans hw191_2), ((HB.out.cell (World.block_lt_of_cell? w _ hw192_0)).trans hw192_0), ((HB.out.cell (World.block_lt_of_cell? w _ hw192_1)).trans hw192_1), ((HB.out.cell (World.block_lt_of_cell? w _ hw192_2)).trans hw192_2), ((HB.out.cell (World.block_lt_of_cell? w _ hw193_0)).trans hw193_0), ((HB.out.cell (World.block_lt_of_cell? w _ hw193_1)).trans hw193_1), ((HB.out.cell (World.block_lt_of_cell? w _ hw193_2)).trans hw193_2)⟩ (fun hHeld => ?_); refine with_tabW salvorref16_MayRegions.tab5 salvorref16_MayRegions.bits5 (fun HT_ HW_ => ?_)
         generalize wr.drew = w9 at HB hx191_0 hx191_1 hx191_2 hx192_0 hx192_1 hx192_2 hx193_0 hx193_1 hx193_2 hHeld ⊢
         refine pu_ 0 11 (lb_ 52 1) rfl rfl (ao_ HT_) ?_
         refine pu_ 1 12 (lb_ 52 3) rfl rfl (ao_ HT_) ?_
         refine pu_ 2 13 (lb_ 52 7) rfl rfl (ao_ HT_) ?_
         refine pu_ 3 14 (lb_ 52 15) rfl rfl (ao_ HT_) ?_
         refine pu_ 5 16 (lb_ 52 47) rfl rfl (ao_ HT_) ?_
         refine tk_ 4 15 (lb_ 52 63) rfl rfl (take_ofW HT_.out HW_.out (by kernel_rfl)) hHeld ?_
         refine pu_ 6 17 (lb_ 52 127) rfl rfl (ao_ HT_) ?_
         refine pu_ 7 18 (lb_ 52 255) rfl rfl (ao_ HT_) ?_
         refine pu_ 8 19 (lb_ 52 511) rfl rfl (ao_ HT_) ?_
         refine pu_ 9 20 (lb_ 52 1023) rfl rfl (ao_ HT_) ?_
         refine pu_ 10 21 (lb_ 52 2047) rfl rfl (ao_ HT_) ?_
         refine pu_ 11 22 (lb_ 52 4095) rfl rfl (ao_ HT_) ?_
         refine tk_ 12 23 (lb_ 52 8191) rfl rfl (take_ofW HT_.out HW_.out (by kernel_rfl)) hHeld ?_
         refine pu_ 13 24 (lb_ 52 16383) rfl rfl (ao_ HT_) ?_
         refine pu_ 14 25 (lb_ 52 32767) rfl rfl (ao_ HT_) ?_
         refine pu_ 15 26 (lb_ 52 65535) rfl rfl (ao_ HT_) ?_
         refine pu_ 16 27 (lb_ 52 131071) rfl rfl (ao_ HT_) ?_
         refine pu_ 17 28 (lb_ 52 262143) rfl rfl (ao_ HT_) ?_
         refine pu_ 18 29 (lb_ 52 524287) rfl rfl (ao_ HT_) ?_
         refine pu_ 19 30 (lb_ 52 1048575) rfl rfl (ao_ HT_) ?_
         refine pu_ 21 32 (lb_ 52 3145727) rfl rfl (ao_ HT_) ?_
         refine pu_ 22 33 (lb_ 52 7340031) rfl rfl (ao_ HT_) ?_
         refine tk_ 20 31 (lb_ 52 8388607) rfl rfl (take_ofW HT_.out HW_.out (by kernel_rfl)) hHeld ?_
         refine pu_ 23 34 (lb_ 52 16777215) rfl rfl (ao_ HT_) ?_
         refine pu_ 24 35 (lb_ 52 33554431) rfl rfl (ao_ HT_) ?_
         refine pu_ 25 36 (lb_ 52 67108863) rfl rfl (ao_ HT_) ?_
         refine pd_ 26 37 (lb_ 52 134217727) rfl rfl (ao_ HT_) ?_
         refine pd_ 27 38 (lb_ 52 268435455) rfl rfl (ao_ HT_) ?_
         refine pd_ 28 39 (lb_ 52 536870911) rfl rfl (ao_ HT_) ?_
         refine pd_ 29 40 (lb_ 52 1073741823) rfl rfl (ao_ HT_) ?_
         refine pd_ 30 41 (lb_ 52 2147483647) rfl rfl (ao_ HT_) ?_
         refine pd_ 31 42 (lb_ 52 4294967295) rfl rfl (ao_ HT_) ?_
         refine pd_ 32 43 (lb_ 52 8589934591) rfl rfl (ao_ HT_) ?_
         refine pu_ 33 44 (lb_ 52 17179869183) rfl rfl (ao_ HT_) ?_
         refine pu_ 34 45 (lb_ 52 34359738367) rfl rfl (ao_ HT_) ?_
         refine pd_ 35 46 (lb_ 52 68719476735) rfl rfl (ao_ HT_) ?_
         refine pd_ 36 47 (lb_ 52 137438953471) rfl rfl (ao_ HT_) ?_
         refine pd_ 37 48 (lb_ 52 274877906943) rfl rfl (ao_ HT_) ?_
         refine pd_ 38 49 (lb_ 52 549755813887) rfl rfl (ao_ HT_) ?_
         refine pd_ 39 50 (lb_ 52 1099511627775) rfl rfl (ao_ HT_) ?_
         refine pd_ 40 51 (lb_ 52 2199023255551) rfl rfl (ao_ HT_) ?_
         refine pd_ 41 52 (lb_ 52 4398046511103) rfl rfl (ao_ HT_) ?_
         refine pd_ 42 53 (lb_ 52 8796093022207) rfl rfl (ao_ HT_) ?_
         refine pd_ 43 54 (lb_ 52 17592186044415) rfl rfl (ao_ HT_) ?_
         refine pd_ 44 55 (lb_ 52 35184372088831) rfl rfl (ao_ HT_) ?_
         refine pd_ 45 56 (lb_ 52 70368744177663) rfl rfl (ao_ HT_) ?_
         refine pd_ 46 57 (lb_ 52 140737488355327) rfl rfl (ao_ HT_) ?_
         refine pd_ 47 58 (lb_ 52 281474976710655) rfl rfl (ao_ HT_) ?_
         refine pd_ 48 59 (lb_ 52 562949953421311) rfl rfl (ao_ HT_) ?_
         refine pd_ 49 60 (lb_ 52 1125899906842623) rfl rfl (ao_ HT_) ?_
         refine pd_ 50 61 (lb_ 52 2251799813685247) rfl rfl (ao_ HT_) ?_
         refine pu_ 51 62 (lb_ 52 4503599627370495) rfl rfl (ao_ HT_) ?_
         refine done_ (done_of HT_.out (by kernel_rfl)) ?_
         try go_wp2
         go_meet
         case rel => exact ⟨_, (true), (by first | rfl | (simp; done) | (simp [*]; done)), H', ⟨by have := HK1.out; first | omega | exact Nat.le_refl _⟩, ⟨bh_ HB⟩⟩
        ·rw [if_neg c8] at H
         have c8b0 : decide ((wrap64 (1099511627776 - x3_1)) < ((rd_T23 l0 x4_1).f1)) = false := decide_eq_false c8
         clear c8
         replace H := Option.bind_eq_some_iff.mp H
         obtain ⟨t195, A100, H⟩ := H
         replace H : (if t195 = true then (if x4_1 > 0 then (if 0 ≤ (wrap64 (x4_1 - 1)) then (if (wrap64 (x4_1 - 1)) < (l0.length : Int) then (salvorref16_MayRegions.j1 k1 l0 x3_1 x4_1 (((rd_T23 l0 (wrap64 (x4_1 - 1))).f2) == ((rd_T23 l0 x4_1).f2))) else (none)) else (none)) else (salvorref16_MayRegions.j1 k1 l0 x3_1 x4_1 false)) else (salvorref16_MayRegions.j1 k1 l0 x3_1 x4_1 true)) = some r := H
         have A10 := Aside0.mk A100
         clear A100
         by_cases c11 : t195 = true
         ·subst c11
          have H1 : (if x4_1 > 0 then (if 0 ≤ (wrap64 (x4_1 - 1)) then (if (wrap64 (x4_1 - 1)) < (l0.length : Int) then (salvorref16_MayRegions.j1 k1 l0 x3_1 x4_1 (((rd_T23 l0 (wrap64 (x4_1 - 1))).f2) == ((rd_T23 l0 x4_1).f2))) else (none)) else (none)) else (salvorref16_MayRegions.j1 k1 l0 x3_1 x4_1 false)) = some r := by rw [if_pos rfl] at H; exact H
          clear H
          have H := H1
          clear H1
          by_cases c12 : x4_1 > 0
          ·rw [if_pos c12] at H
           have c12b0 : decide (0 < x4_1) = true := decide_eq_true c12
           clear c12
           obtain ⟨ji13, hji13⟩ : ∃ j_ : Int, (wrap64 (x4_1 - 1)) = j_ := ⟨_, rfl⟩
           replace H : (if 0 ≤ (ji13) then (if (ji13) < (l0.length : Int) then (salvorref16_MayRegions.j1 k1 l0 x3_1 x4_1 (((rd_T23 l0 (ji13)).f2) == ((rd_T23 l0 x4_1).f2))) else (none)) else (none)) = some r := by first | (rw [hji13] at H; exact H) | (simp only [hji13] at H ⊢; exact H)
           (try rw [hji13] at A10)
           have hji13w : (IntKind.i64.wrap (x4_1 - 1)) = ji13 := (i64_w _).trans hji13
           by_cases c14 : 0 ≤ (ji13)
           ·rw [if_pos c14] at H
            have c14b0 : decide (0 ≤ (ji13)) = true := decide_eq_true c14
            clear c14
            by_cases c15 : (ji13) < (l0.length : Int)
            ·rw [if_pos c15] at H
             have c15b0 : decide ((ji13) < (l0.length : Int)) = true := decide_eq_true c15
             clear c15
             have H' := Aside0.mk H
             clear H
             try go_wp2
             replace HB := Aside0.mk (below_drew1 HB.out)
             have p191 : 0 ≤ (x4_1 : Int) := of_decide_eq_true (by first | (with_reducible assumption) | assumption)
             have q191 : x4_1 < (l0.length : Int) := of_decide_eq_true (by first | (with_reducible assumption) | assumption)
             obtain ⟨ad191, e191, hx191_0, hx191_1, hx191_2⟩ := at_T23 HR0.out x4_1 p191 q191
             have hw191_2 := hx191_2
             have hw191_1 := hx191_1
             have hw191_0 := hx191_0
             cases e191
             replace hx191_0 := (HB.out.cell (World.block_lt_of_cell? w _ hx191_0)).trans hx191_0
             replace hx191_1 := (HB.out.cell (World.block_lt_of_cell? w _ hx191_1)).trans hx191_1
             replace hx191_2 := (HB.out.cell (World.block_lt_of_cell? w _ hx191_2)).trans hx191_2
             replace p191 := eq_true p191
             replace q191 := eq_true q191
             have p192 : 0 ≤ (x4_1 : Int) := of_decide_eq_true (by first | (with_reducible assumption) | assumption)
             have q192 : x4_1 < (l0.length : Int) := of_decide_eq_true (by first | (with_reducible assumption) | assumption)
             obtain ⟨ad192, e192, hx192_0, hx192_1, hx192_2⟩ := at_T23 HR0.out x4_1 p192 q192
             have hw192_2 := hx192_2
             have hw192_1 := hx192_1
             have hw192_0 := hx192_0
             obtain rfl : ad191 = ad192 := (by injection e192)
             replace hx192_0 := (HB.out.cell (World.block_lt_of_cell? w _ hx192_0)).trans hx192_0
             replace hx192_1 := (HB.out.cell (World.block_lt_of_cell? w _ hx192_1)).trans hx192_1
             replace hx192_2 := (HB.out.cell (World.block_lt_of_cell? w _ hx192_2)).trans hx192_2
             replace p192 := eq_true p192
             replace q192 := eq_true q192
             have p193 : 0 ≤ (x4_1 : Int) := of_decide_eq_true (by first | (with_reducible assumption) | assumption)
             have q193 : x4_1 < (l0.length : Int) := of_decide_eq_true (by first | (with_reducible assumption) | assumption)
             obtain ⟨ad193, e193, hx193_0, hx193_1, hx193_2⟩ := at_T23 HR0.out x4_1 p193 q193
             have hw193_2 := hx193_2
             have hw193_1 := hx193_1
             have hw193_0 := hx193_0
             obtain rfl : ad191 = ad193 := (by injection e193)
             replace hx193_0 := (HB.out.cell (World.block_lt_of_cell? w _ hx193_0)).trans hx193_0
             replace hx193_1 := (HB.out.cell (World.block_lt_of_cell? w _ hx193_1)).trans hx193_1
             replace hx193_2 := (HB.out.cell (World.block_lt_of_cell? w _ hx193_2)).trans hx193_2
             replace p193 := eq_true p193
             replace q193 := eq_true q193
             have p194 : 0 ≤ (x4_1 : Int) := of_decide_eq_true (by first | (with_reducible assumption) | assumption)
             have q194 : x4_1 < (l0.length : Int) := of_decide_eq_true (by first | (with_reducible assumption) | assumption)
             obtain ⟨ad194, e194, hx194_0, hx194_1, hx194_2⟩ := at_T23 HR0.out x4_1 p194 q194
             have hw194_2 := hx194_2
             have hw194_1 := hx194_1
             have hw194_0 := hx194_0
             obtain rfl : ad191 = ad194 := (by injection e194)
             replace hx194_0 := (HB.out.cell (World.block_lt_of_cell? w _ hx194_0)).trans hx194_0
             replace hx194_1 := (HB.out.cell (World.block_lt_of_cell? w _ hx194_1)).trans hx194_1
             replace hx194_2 := (HB.out.cell (World.block_lt_of_cell? w _ hx194_2)).trans hx194_2
             replace p194 := eq_true p194
             replace q194 := eq_true q194
             have p196 : 0 ≤ ((ji13) : Int) := of_decide_eq_true (by first | (with_reducible assumption) | assumption)
             have q196 : (ji13) < (l0.length : Int) := of_decide_eq_true (by first | (with_reducible assumption) | assumption)
             obtain ⟨ad196, e196, hx196_0, hx196_1, hx196_2⟩ := at_T23 HR0.out (ji13) p196 q196
             have hw196_2 := hx196_2
             have hw196_1 := hx196_1
             have hw196_0 := hx196_0
             obtain rfl : ad191 = ad196 := (by injection e196)
             replace hx196_0 := (HB.out.cell (World.block_lt_of_cell? w _ hx196_0)).trans hx196_0
             replace hx196_1 := (HB.out.cell (World.block_lt_of_cell? w _ hx196_1)).trans hx196_1
             replace hx196_2 := (HB.out.cell (World.block_lt_of_cell? w _ hx196_2)).trans hx196_2
             replace p196 := eq_true p196
             replace q196 := eq_true q196
             have p197 : 0 ≤ (x4_1 : Int) := of_decide_eq_true (by first | (with_reducible assumption) | assumption)
             have q197 : x4_1 < (l0.length : Int) := of_decide_eq_true (by first | (with_reducible assumption) | assumption)
             obtain ⟨ad197, e197, hx197_0, hx197_1, hx197_2⟩ := at_T23 HR0.out x4_1 p197 q197
             have hw197_2 := hx197_2
             have hw197_1 := hx197_1
             have hw197_0 := hx197_0
             obtain rfl : ad191 = ad197 := (by injection e197)
             replace hx197_0 := (HB.out.cell (World.block_lt_of_cell? w _ hx197_0)).trans hx197_0
             replace hx197_1 := (HB.out.cell (World.block_lt_of_cell? w _ hx197_1)).trans hx197_1
             replace hx197_2 := (HB.out.cell (World.block_lt_of_cell? w _ hx197_2)).trans hx197_2
             replace p197 := eq_true p197
             replace q197 := eq_true q197
             refine start_ (n := 52) (S := fun w' => w'.cell? (ad191.add ((x4_1).toNat * 3)) = some (.int .i64 ((rd_T23 l0 x4_1).f0)) ∧ w'.cell? ⟨(ad191.add ((x4_1).toNat * 3)).block, (ad191.add ((x4_1).toNat * 3)).off + 1, none⟩ = some (.int .i64 ((rd_T23 l0 x4_1).f1)) ∧ w'.cell? ⟨(ad191.add ((x4_1).toNat * 3)).block, (ad191.add ((x4_1).toNat * 3)).off + 2, none⟩ = some (.int .u8 ((rd_T23 l0 x4_1).f2)) ∧ w'.cell? (ad191.add ((x4_1).toNat * 3)) = some (.int .i64 ((rd_T23 l0 x4_1).f0)) ∧ w'.cell? ⟨(ad191.add ((x4_1).toNat * 3)).block, (ad191.add ((x4_1).toNat * 3)).off + 1, none⟩ = some (.int .i64 ((rd_T23 l0 x4_1).f1)) ∧ w'.cell? ⟨(ad191.add ((x4_1).toNat * 3)).block, (ad191.add ((x4_1).toNat * 3)).off + 2, none⟩ = some (.int .u8 ((rd_T23 l0 x4_1).f2)) ∧ w'.cell? (ad191.add ((x4_1).toNat * 3)) = some (.int .i64 ((rd_T23 l0 x4_1).f0)) ∧ w'.cell? ⟨(ad191.add ((x4_1).toNat * 3)).block, (ad191.add ((x4_1).toNat * 3)).off + 1, none⟩ = some (.int .i64 ((rd_T23 l0 x4_1).f1)) ∧ w'.cell? ⟨(ad191.add ((x4_1).toNat * 3)).block, (ad191.add ((x4_1).toNat * 3)).off + 2, none⟩ = some (.int .u8 ((rd_T23 l0 x4_1).f2)) ∧ w'.cell? (ad191.add ((x4_1).toNat * 3)) = some (.int .i64 ((rd_T23 l0 x4_1).f0)) ∧ w'.cell? ⟨(ad191.add ((x4_1).toNat * 3)).block, (ad191.add ((x4_1).toNat * 3)).off + 1, none⟩ = some (.int .i64 ((rd_T23 l0 x4_1).f1)) ∧ w'.cell? ⟨(ad191.add ((x4_1).toNat * 3)).block, (ad191.add ((x4_1).toNat * 3)).off + 2, none⟩ = some (.int .u8 ((rd_T23 l0 x4_1).f2)) ∧ w'.cell? (ad191.add (((ji13)).toNat * 3)) = some (.int .i64 ((rd_T23 l0 (ji13)).f0)) ∧ w'.cell? ⟨(ad191.add (((ji13)).toNat * 3)).block, (ad191.add (((ji13)).toNat * 3)).off + 1, none⟩ = some (.int .i64 ((rd_T23 l0 (ji13)).f1)) ∧ w'.cell? ⟨(ad191.add (((ji13)).toNat * 3)).block, (ad191.add (((ji13)).toNat * 3)).off + 2, none⟩ = some (.int .u8 ((rd_T23 l0 (ji13)).f2)) ∧ w'.cell? (ad191.add ((x4_1).toNat * 3)) = some (.int .i64 ((rd_T23 l0 x4_1).f0)) ∧ w'.cell? ⟨(ad191.add ((x4_1).toNat * 3)).block, (ad191.add ((x4_1).toNat * 3)).off + 1, none⟩ = some (.int .i64 ((rd_T23 l0 x4_1).f1)) ∧ w'.cell? ⟨(ad191.add ((x4_1).toNat * 3)).block, (ad191.add ((x4_1).toNat * 3)).off + 2, none⟩ = some (.int .u8 ((rd_T23 l0 x4_1).f2))) (ds := []) #[false, false, false, false, false, false, false, false, false, false, false, false, false, false, false, false, false, false, false, false, false, false, false, false, false, false, false, false, false, false, false, false, false, false, false, false, false, false, false, false, false, false, false, false, false, false, false, false, false, false, false, false] (by kernel_rfl) rfl rfl ⟨((HB.out.cell (World.block_lt_of_cell? w _ hw191_0)).trans hw191_0), ((HB.out.cell (World.block_lt_of_cell? w _ hw191_1)).trans hw191_1), ((HB.out.cell (World.block_lt_of_cell? w _ hw191_2)).trans hw191_2), ((HB.out.cell (World.block_lt_of_cell? w _ hw192_0)).trans hw192_0), ((HB.out.cell (World.block_lt_of_cell? w _ hw192_1)).trans hw192_1), ((HB.out.cell (World.block_lt_of_cell? w _ hw192_2)).trans hw192_2), ((HB.out.cell (World.block_lt_of_cell? w _ hw193_0)).trans hw193_0), ((HB.out.cell (World.block_lt_of_cell? w _ hw193_1)).trans hw193_1), ((HB.out.cell (World.block_lt_of_cell? w _ hw193_2)).trans hw193_2), ((HB.out.cell (World.block_lt_of_cell? w _ hw194_0)).trans hw194_0), ((HB.out.cell (World.block_lt_of_cell? w _ hw194_1)).trans hw194_1), ((HB.out.cell (World.block_lt_of_cell? w _ hw194_2)).trans hw194_2), ((HB.out.cell (World.block_lt_of_cell? w _ hw196_0)).trans hw196_0), ((HB.out.cell (World.block_lt_of_cell? w _ hw196_1)).trans hw196_1), ((HB.out.cell (World.block_lt_of_cell? w _ hw196_2)).trans hw196_2), ((HB.out.cell (World.block_lt_of_cell? w _ hw197_0)).trans hw197_0), ((HB.out.cell (World.block_lt_of_cell? w _ hw197_1)).trans hw197_1), ((HB.out.cell (World.block_lt_of_cell? w _ hw197_2)).trans hw197_2)⟩ (fun hHeld => ?_); refine with_tabW salvorref16_MayRegions.tab5 salvorref16_MayRegions.bits5 (fun HT_ HW_ => ?_)
             generalize wr.drew = w16 at HB hx191_0 hx191_1 hx191_2 hx192_0 hx192_1 hx192_2 hx193_0 hx193_1 hx193_2 hx194_0 hx194_1 hx194_2 hx196_0 hx196_1 hx196_2 hx197_0 hx197_1 hx197_2 hHeld ⊢
             refine pu_ 0 11 (lb_ 52 1) rfl rfl (ao_ HT_) ?_
             refine pu_ 1 12 (lb_ 52 3) rfl rfl (ao_ HT_) ?_
             refine pu_ 2 13 (lb_ 52 7) rfl rfl (ao_ HT_) ?_
             refine pu_ 3 14 (lb_ 52 15) rfl rfl (ao_ HT_) ?_
             refine pu_ 5 16 (lb_ 52 47) rfl rfl (ao_ HT_) ?_
             refine tk_ 4 15 (lb_ 52 63) rfl rfl (take_ofW HT_.out HW_.out (by kernel_rfl)) hHeld ?_
             refine pu_ 6 17 (lb_ 52 127) rfl rfl (ao_ HT_) ?_
             refine pu_ 7 18 (lb_ 52 255) rfl rfl (ao_ HT_) ?_
             refine pu_ 8 19 (lb_ 52 511) rfl rfl (ao_ HT_) ?_
             refine pu_ 9 20 (lb_ 52 1023) rfl rfl (ao_ HT_) ?_
             refine pu_ 10 21 (lb_ 52 2047) rfl rfl (ao_ HT_) ?_
             refine pu_ 11 22 (lb_ 52 4095) rfl rfl (ao_ HT_) ?_
             refine tk_ 12 23 (lb_ 52 8191) rfl rfl (take_ofW HT_.out HW_.out (by kernel_rfl)) hHeld ?_
             refine pu_ 13 24 (lb_ 52 16383) rfl rfl (ao_ HT_) ?_
             refine pu_ 14 25 (lb_ 52 32767) rfl rfl (ao_ HT_) ?_
             refine pu_ 15 26 (lb_ 52 65535) rfl rfl (ao_ HT_) ?_
             refine pu_ 16 27 (lb_ 52 131071) rfl rfl (ao_ HT_) ?_
             refine pu_ 17 28 (lb_ 52 262143) rfl rfl (ao_ HT_) ?_
             refine pu_ 18 29 (lb_ 52 524287) rfl rfl (ao_ HT_) ?_
             refine pu_ 19 30 (lb_ 52 1048575) rfl rfl (ao_ HT_) ?_
             refine pu_ 21 32 (lb_ 52 3145727) rfl rfl (ao_ HT_) ?_
             refine pu_ 22 33 (lb_ 52 7340031) rfl rfl (ao_ HT_) ?_
             refine tk_ 20 31 (lb_ 52 8388607) rfl rfl (take_ofW HT_.out HW_.out (by kernel_rfl)) hHeld ?_
             refine pu_ 23 34 (lb_ 52 16777215) rfl rfl (ao_ HT_) ?_
             refine pu_ 24 35 (lb_ 52 33554431) rfl rfl (ao_ HT_) ?_
             refine pu_ 25 36 (lb_ 52 67108863) rfl rfl (ao_ HT_) ?_
             refine pu_ 26 37 (lb_ 52 134217727) rfl rfl (ao_ HT_) ?_
             refine pu_ 27 38 (lb_ 52 268435455) rfl rfl (ao_ HT_) ?_
             refine pu_ 28 39 (lb_ 52 536870911) rfl rfl (ao_ HT_) ?_
             refine pu_ 29 40 (lb_ 52 1073741823) rfl rfl (ao_ HT_) ?_
             refine tk_ 30 41 (lb_ 52 2147483647) rfl rfl (take_ofW HT_.out HW_.out (by kernel_rfl)) hHeld ?_
             refine one_ (i := 31) (N := some 42) #[true, true, true, true, true, true, true, true, true, true, true, true, true, true, true, true, true, true, true, true, true, true, true, true, true, true, true, true, true, true, true, true, false, false, false, false, false, false, false, false, false, false, false, false, false, false, false, false, false, false, false, false] rfl rfl (one_of HT_.out (by kernel_rfl)) (by decide) (fun K hK => ?_)
             refine gq_ Tryz.func40 (by kernel_rfl) rfl #[.int .u8 ((rd_T23 l0 x4_1).f2)] (by rfl) rfl rfl ?_
             with_reducible refine (salvorref16_status.calls ((rd_T23 l0 x4_1).f2) true _ A10.out).mono ?_
             rintro e w' ⟨rfl, ⟨nd, rfl⟩⟩
             refine ⟨_, rfl, ?_⟩
             refine hK.out _ _ ⟨((HB.out.cell (World.block_lt_of_cell? w _ hw191_0)).trans hw191_0), ((HB.out.cell (World.block_lt_of_cell? w _ hw191_1)).trans hw191_1), ((HB.out.cell (World.block_lt_of_cell? w _ hw191_2)).trans hw191_2), ((HB.out.cell (World.block_lt_of_cell? w _ hw192_0)).trans hw192_0), ((HB.out.cell (World.block_lt_of_cell? w _ hw192_1)).trans hw192_1), ((HB.out.cell (World.block_lt_of_cell? w _ hw192_2)).trans hw192_2), ((HB.out.cell (World.block_lt_of_cell? w _ hw193_0)).trans hw193_0), ((HB.out.cell (World.block_lt_of_cell? w _ hw193_1)).trans hw193_1), ((HB.out.cell (World.block_lt_of_cell? w _ hw193_2)).trans hw193_2), ((HB.out.cell (World.block_lt_of_cell? w _ hw194_0)).trans hw194_0), ((HB.out.cell (World.block_lt_of_cell? w _ hw194_1)).trans hw194_1), ((HB.out.cell (World.block_lt_of_cell? w _ hw194_2)).trans hw194_2), ((HB.out.cell (World.block_lt_of_cell? w _ hw196_0)).trans hw196_0), ((HB.out.cell (World.block_lt_of_cell? w _ hw196_1)).trans hw196_1), ((HB.out.cell (World.block_lt_of_cell? w _ hw196_2)).trans hw196_2), ((HB.out.cell (World.block_lt_of_cell? w _ hw197_0)).trans hw197_0), ((HB.out.cell (World.block_lt_of_cell? w _ hw197_1)).trans hw197_1), ((HB.out.cell (World.block_lt_of_cell? w _ hw197_2)).trans hw197_2)⟩ (fun hHeld => ?_)
             clear hK K
             refine nm_ 42 ?_
             refine pu_ 32 43 (lb_ 52 8589934591) rfl rfl (ao_ HT_) ?_
             refine pu_ 33 44 (lb_ 52 17179869183) rfl rfl (ao_ HT_) ?_
             refine pu_ 34 45 (lb_ 52 34359738367) rfl rfl (ao_ HT_) ?_
             refine pu_ 35 46 (lb_ 52 68719476735) rfl rfl (ao_ HT_) ?_
             refine pu_ 36 47 (lb_ 52 137438953471) rfl rfl (ao_ HT_) ?_
             refine pu_ 37 48 (lb_ 52 274877906943) rfl rfl (ao_ HT_) ?_
             refine pu_ 38 49 (lb_ 52 549755813887) rfl rfl (ao_ HT_) ?_
             refine pu_ 39 50 (lb_ 52 1099511627775) rfl rfl (ao_ HT_) ?_
             refine pu_ 40 51 (lb_ 52 2199023255551) rfl rfl (ao_ HT_) ?_
             refine pu_ 41 52 (lb_ 52 4398046511103) rfl rfl (ao_ HT_) ?_
             refine pu_ 42 53 (lb_ 52 8796093022207) rfl rfl (ao_ HT_) ?_
             refine pu_ 44 55 (lb_ 52 26388279066623) rfl rfl (ao_ HT_) ?_
             refine pu_ 45 56 (lb_ 52 61572651155455) rfl rfl (ao_ HT_) ?_
             refine pu_ 46 57 (lb_ 52 131941395333119) rfl rfl (ao_ HT_) ?_
             refine pu_ 47 58 (lb_ 52 272678883688447) rfl rfl (ao_ HT_) ?_
             refine tk_ 43 54 (lb_ 52 281474976710655) rfl rfl (take_ofW HT_.out HW_.out (by kernel_rfl)) hHeld ?_
             refine tk_ 48 59 (lb_ 52 562949953421311) rfl rfl (take_ofW HT_.out HW_.out (by kernel_rfl)) hHeld ?_
             refine pu_ 49 60 (lb_ 52 1125899906842623) rfl rfl (ao_ HT_) ?_
             refine pu_ 50 61 (lb_ 52 2251799813685247) rfl rfl (ao_ HT_) ?_
             refine pu_ 51 62 (lb_ 52 4503599627370495) rfl rfl (ao_ HT_) ?_
             refine done_ (done_of HT_.out (by kernel_rfl)) ?_
             try go_wp2
             go_meet
             case rel => exact ⟨_, ((((rd_T23 l0 (ji13)).f2) == ((rd_T23 l0 x4_1).f2))), (by first | rfl | (simp; done) | (simp only [← hji13] <;> (first | rfl | simp)) | (simp [*]; done)), H', ⟨by have := HK1.out; first | omega | exact Nat.le_refl _⟩, ⟨bh_ HB⟩⟩
            ·rw [if_neg c15] at H
             exact absurd H (by simp)
           ·rw [if_neg c14] at H
            exact absurd H (by simp)
          ·rw [if_neg c12] at H
           have c12b0 : decide (0 < x4_1) = false := decide_eq_false c12
           clear c12
           have H' := Aside0.mk H
           clear H
           try go_wp2
           replace HB := Aside0.mk (below_drew1 HB.out)
           have p191 : 0 ≤ (x4_1 : Int) := of_decide_eq_true (by first | (with_reducible assumption) | assumption)
           have q191 : x4_1 < (l0.length : Int) := of_decide_eq_true (by first | (with_reducible assumption) | assumption)
           obtain ⟨ad191, e191, hx191_0, hx191_1, hx191_2⟩ := at_T23 HR0.out x4_1 p191 q191
           have hw191_2 := hx191_2
           have hw191_1 := hx191_1
           have hw191_0 := hx191_0
           cases e191
           replace hx191_0 := (HB.out.cell (World.block_lt_of_cell? w _ hx191_0)).trans hx191_0
           replace hx191_1 := (HB.out.cell (World.block_lt_of_cell? w _ hx191_1)).trans hx191_1
           replace hx191_2 := (HB.out.cell (World.block_lt_of_cell? w _ hx191_2)).trans hx191_2
           replace p191 := eq_true p191
           replace q191 := eq_true q191
           have p192 : 0 ≤ (x4_1 : Int) := of_decide_eq_true (by first | (with_reducible assumption) | assumption)
           have q192 : x4_1 < (l0.length : Int) := of_decide_eq_true (by first | (with_reducible assumption) | assumption)
           obtain ⟨ad192, e192, hx192_0, hx192_1, hx192_2⟩ := at_T23 HR0.out x4_1 p192 q192
           have hw192_2 := hx192_2
           have hw192_1 := hx192_1
           have hw192_0 := hx192_0
           obtain rfl : ad191 = ad192 := (by injection e192)
           replace hx192_0 := (HB.out.cell (World.block_lt_of_cell? w _ hx192_0)).trans hx192_0
           replace hx192_1 := (HB.out.cell (World.block_lt_of_cell? w _ hx192_1)).trans hx192_1
           replace hx192_2 := (HB.out.cell (World.block_lt_of_cell? w _ hx192_2)).trans hx192_2
           replace p192 := eq_true p192
           replace q192 := eq_true q192
           have p193 : 0 ≤ (x4_1 : Int) := of_decide_eq_true (by first | (with_reducible assumption) | assumption)
           have q193 : x4_1 < (l0.length : Int) := of_decide_eq_true (by first | (with_reducible assumption) | assumption)
           obtain ⟨ad193, e193, hx193_0, hx193_1, hx193_2⟩ := at_T23 HR0.out x4_1 p193 q193
           have hw193_2 := hx193_2
           have hw193_1 := hx193_1
           have hw193_0 := hx193_0
           obtain rfl : ad191 = ad193 := (by injection e193)
           replace hx193_0 := (HB.out.cell (World.block_lt_of_cell? w _ hx193_0)).trans hx193_0
           replace hx193_1 := (HB.out.cell (World.block_lt_of_cell? w _ hx193_1)).trans hx193_1
           replace hx193_2 := (HB.out.cell (World.block_lt_of_cell? w _ hx193_2)).trans hx193_2
           replace p193 := eq_true p193
           replace q193 := eq_true q193
           have p194 : 0 ≤ (x4_1 : Int) := of_decide_eq_true (by first | (with_reducible assumption) | assumption)
           have q194 : x4_1 < (l0.length : Int) := of_decide_eq_true (by first | (with_reducible assumption) | assumption)
           obtain ⟨ad194, e194, hx194_0, hx194_1, hx194_2⟩ := at_T23 HR0.out x4_1 p194 q194
           have hw194_2 := hx194_2
           have hw194_1 := hx194_1
           have hw194_0 := hx194_0
           obtain rfl : ad191 = ad194 := (by injection e194)
           replace hx194_0 := (HB.out.cell (World.block_lt_of_cell? w _ hx194_0)).trans hx194_0
           replace hx194_1 := (HB.out.cell (World.block_lt_of_cell? w _ hx194_1)).trans hx194_1
           replace hx194_2 := (HB.out.cell (World.block_lt_of_cell? w _ hx194_2)).trans hx194_2
           replace p194 := eq_true p194
           replace q194 := eq_true q194
           refine start_ (n := 52) (S := fun w' => w'.cell? (ad191.add ((x4_1).toNat * 3)) = some (.int .i64 ((rd_T23 l0 x4_1).f0)) ∧ w'.cell? ⟨(ad191.add ((x4_1).toNat * 3)).block, (ad191.add ((x4_1).toNat * 3)).off + 1, none⟩ = some (.int .i64 ((rd_T23 l0 x4_1).f1)) ∧ w'.cell? ⟨(ad191.add ((x4_1).toNat * 3)).block, (ad191.add ((x4_1).toNat * 3)).off + 2, none⟩ = some (.int .u8 ((rd_T23 l0 x4_1).f2)) ∧ w'.cell? (ad191.add ((x4_1).toNat * 3)) = some (.int .i64 ((rd_T23 l0 x4_1).f0)) ∧ w'.cell? ⟨(ad191.add ((x4_1).toNat * 3)).block, (ad191.add ((x4_1).toNat * 3)).off + 1, none⟩ = some (.int .i64 ((rd_T23 l0 x4_1).f1)) ∧ w'.cell? ⟨(ad191.add ((x4_1).toNat * 3)).block, (ad191.add ((x4_1).toNat * 3)).off + 2, none⟩ = some (.int .u8 ((rd_T23 l0 x4_1).f2)) ∧ w'.cell? (ad191.add ((x4_1).toNat * 3)) = some (.int .i64 ((rd_T23 l0 x4_1).f0)) ∧ w'.cell? ⟨(ad191.add ((x4_1).toNat * 3)).block, (ad191.add ((x4_1).toNat * 3)).off + 1, none⟩ = some (.int .i64 ((rd_T23 l0 x4_1).f1)) ∧ w'.cell? ⟨(ad191.add ((x4_1).toNat * 3)).block, (ad191.add ((x4_1).toNat * 3)).off + 2, none⟩ = some (.int .u8 ((rd_T23 l0 x4_1).f2)) ∧ w'.cell? (ad191.add ((x4_1).toNat * 3)) = some (.int .i64 ((rd_T23 l0 x4_1).f0)) ∧ w'.cell? ⟨(ad191.add ((x4_1).toNat * 3)).block, (ad191.add ((x4_1).toNat * 3)).off + 1, none⟩ = some (.int .i64 ((rd_T23 l0 x4_1).f1)) ∧ w'.cell? ⟨(ad191.add ((x4_1).toNat * 3)).block, (ad191.add ((x4_1).toNat * 3)).off + 2, none⟩ = some (.int .u8 ((rd_T23 l0 x4_1).f2))) (ds := []) #[false, false, false, false, false, false, false, false, false, false, false, false, false, false, false, false, false, false, false, false, false, false, false, false, false, false, false, false, false, false, false, false, false, false, false, false, false, false, false, false, false, false, false, false, false, false, false, false, false, false, false, false] (by kernel_rfl) rfl rfl ⟨((HB.out.cell (World.block_lt_of_cell? w _ hw191_0)).trans hw191_0), ((HB.out.cell (World.block_lt_of_cell? w _ hw191_1)).trans hw191_1), ((HB.out.cell (World.block_lt_of_cell? w _ hw191_2)).trans hw191_2), ((HB.out.cell (World.block_lt_of_cell? w _ hw192_0)).trans hw192_0), ((HB.out.cell (World.block_lt_of_cell? w _ hw192_1)).trans hw192_1), ((HB.out.cell (World.block_lt_of_cell? w _ hw192_2)).trans hw192_2), ((HB.out.cell (World.block_lt_of_cell? w _ hw193_0)).trans hw193_0), ((HB.out.cell (World.block_lt_of_cell? w _ hw193_1)).trans hw193_1), ((HB.out.cell (World.block_lt_of_cell? w _ hw193_2)).trans hw193_2), ((HB.out.cell (World.block_lt_of_cell? w _ hw194_0)).trans hw194_0), ((HB.out.cell (World.block_lt_of_cell? w _ hw194_1)).trans hw194_1), ((HB.out.cell (World.block_lt_of_cell? w _ hw194_2)).trans hw194_2)⟩ (fun hHeld => ?_); refine with_tabW salvorref16_MayRegions.tab5 salvorref16_MayRegions.bits5 (fun HT_ HW_ => ?_)
           generalize wr.drew = w17 at HB hx191_0 hx191_1 hx191_2 hx192_0 hx192_1 hx192_2 hx193_0 hx193_1 hx193_2 hx194_0 hx194_1 hx194_2 hHeld ⊢
           refine pu_ 0 11 (lb_ 52 1) rfl rfl (ao_ HT_) ?_
           refine pu_ 1 12 (lb_ 52 3) rfl rfl (ao_ HT_) ?_
           refine pu_ 2 13 (lb_ 52 7) rfl rfl (ao_ HT_) ?_
           refine pu_ 3 14 (lb_ 52 15) rfl rfl (ao_ HT_) ?_
           refine pu_ 5 16 (lb_ 52 47) rfl rfl (ao_ HT_) ?_
           refine tk_ 4 15 (lb_ 52 63) rfl rfl (take_ofW HT_.out HW_.out (by kernel_rfl)) hHeld ?_
           refine pu_ 6 17 (lb_ 52 127) rfl rfl (ao_ HT_) ?_
           refine pu_ 7 18 (lb_ 52 255) rfl rfl (ao_ HT_) ?_
           refine pu_ 8 19 (lb_ 52 511) rfl rfl (ao_ HT_) ?_
           refine pu_ 9 20 (lb_ 52 1023) rfl rfl (ao_ HT_) ?_
           refine pu_ 10 21 (lb_ 52 2047) rfl rfl (ao_ HT_) ?_
           refine pu_ 11 22 (lb_ 52 4095) rfl rfl (ao_ HT_) ?_
           refine tk_ 12 23 (lb_ 52 8191) rfl rfl (take_ofW HT_.out HW_.out (by kernel_rfl)) hHeld ?_
           refine pu_ 13 24 (lb_ 52 16383) rfl rfl (ao_ HT_) ?_
           refine pu_ 14 25 (lb_ 52 32767) rfl rfl (ao_ HT_) ?_
           refine pu_ 15 26 (lb_ 52 65535) rfl rfl (ao_ HT_) ?_
           refine pu_ 16 27 (lb_ 52 131071) rfl rfl (ao_ HT_) ?_
           refine pu_ 17 28 (lb_ 52 262143) rfl rfl (ao_ HT_) ?_
           refine pu_ 18 29 (lb_ 52 524287) rfl rfl (ao_ HT_) ?_
           refine pu_ 19 30 (lb_ 52 1048575) rfl rfl (ao_ HT_) ?_
           refine pu_ 21 32 (lb_ 52 3145727) rfl rfl (ao_ HT_) ?_
           refine pu_ 22 33 (lb_ 52 7340031) rfl rfl (ao_ HT_) ?_
           refine tk_ 20 31 (lb_ 52 8388607) rfl rfl (take_ofW HT_.out HW_.out (by kernel_rfl)) hHeld ?_
           refine pu_ 23 34 (lb_ 52 16777215) rfl rfl (ao_ HT_) ?_
           refine pu_ 24 35 (lb_ 52 33554431) rfl rfl (ao_ HT_) ?_
           refine pu_ 25 36 (lb_ 52 67108863) rfl rfl (ao_ HT_) ?_
           refine pu_ 26 37 (lb_ 52 134217727) rfl rfl (ao_ HT_) ?_
           refine pu_ 27 38 (lb_ 52 268435455) rfl rfl (ao_ HT_) ?_
           refine pu_ 28 39 (lb_ 52 536870911) rfl rfl (ao_ HT_) ?_
           refine pu_ 29 40 (lb_ 52 1073741823) rfl rfl (ao_ HT_) ?_
           refine tk_ 30 41 (lb_ 52 2147483647) rfl rfl (take_ofW HT_.out HW_.out (by kernel_rfl)) hHeld ?_
           refine one_ (i := 31) (N := some 42) #[true, true, true, true, true, true, true, true, true, true, true, true, true, true, true, true, true, true, true, true, true, true, true, true, true, true, true, true, true, true, true, true, false, false, false, false, false, false, false, false, false, false, false, false, false, false, false, false, false, false, false, false] rfl rfl (one_of HT_.out (by kernel_rfl)) (by decide) (fun K hK => ?_)
           refine gq_ Tryz.func40 (by kernel_rfl) rfl #[.int .u8 ((rd_T23 l0 x4_1).f2)] (by rfl) rfl rfl ?_
           with_reducible refine (salvorref16_status.calls ((rd_T23 l0 x4_1).f2) true _ A10.out).mono ?_
           rintro e w' ⟨rfl, ⟨nd, rfl⟩⟩
           refine ⟨_, rfl, ?_⟩
           refine hK.out _ _ ⟨((HB.out.cell (World.block_lt_of_cell? w _ hw191_0)).trans hw191_0), ((HB.out.cell (World.block_lt_of_cell? w _ hw191_1)).trans hw191_1), ((HB.out.cell (World.block_lt_of_cell? w _ hw191_2)).trans hw191_2), ((HB.out.cell (World.block_lt_of_cell? w _ hw192_0)).trans hw192_0), ((HB.out.cell (World.block_lt_of_cell? w _ hw192_1)).trans hw192_1), ((HB.out.cell (World.block_lt_of_cell? w _ hw192_2)).trans hw192_2), ((HB.out.cell (World.block_lt_of_cell? w _ hw193_0)).trans hw193_0), ((HB.out.cell (World.block_lt_of_cell? w _ hw193_1)).trans hw193_1), ((HB.out.cell (World.block_lt_of_cell? w _ hw193_2)).trans hw193_2), ((HB.out.cell (World.block_lt_of_cell? w _ hw194_0)).trans hw194_0), ((HB.out.cell (World.block_lt_of_cell? w _ hw194_1)).trans hw194_1), ((HB.out.cell (World.block_lt_of_cell? w _ hw194_2)).trans hw194_2)⟩ (fun hHeld => ?_)
           clear hK K
           refine nm_ 42 ?_
           refine pu_ 32 43 (lb_ 52 8589934591) rfl rfl (ao_ HT_) ?_
           refine pu_ 33 44 (lb_ 52 17179869183) rfl rfl (ao_ HT_) ?_
           refine pu_ 34 45 (lb_ 52 34359738367) rfl rfl (ao_ HT_) ?_
           refine pu_ 35 46 (lb_ 52 68719476735) rfl rfl (ao_ HT_) ?_
           refine pu_ 36 47 (lb_ 52 137438953471) rfl rfl (ao_ HT_) ?_
           refine pu_ 37 48 (lb_ 52 274877906943) rfl rfl (ao_ HT_) ?_
           refine pd_ 38 49 (lb_ 52 549755813887) rfl rfl (ao_ HT_) ?_
           refine pd_ 39 50 (lb_ 52 1099511627775) rfl rfl (ao_ HT_) ?_
           refine pd_ 40 51 (lb_ 52 2199023255551) rfl rfl (ao_ HT_) ?_
           refine pd_ 41 52 (lb_ 52 4398046511103) rfl rfl (ao_ HT_) ?_
           refine pd_ 42 53 (lb_ 52 8796093022207) rfl rfl (ao_ HT_) ?_
           refine pd_ 43 54 (lb_ 52 17592186044415) rfl rfl (ao_ HT_) ?_
           refine pd_ 44 55 (lb_ 52 35184372088831) rfl rfl (ao_ HT_) ?_
           refine pd_ 45 56 (lb_ 52 70368744177663) rfl rfl (ao_ HT_) ?_
           refine pd_ 46 57 (lb_ 52 140737488355327) rfl rfl (ao_ HT_) ?_
           refine pd_ 47 58 (lb_ 52 281474976710655) rfl rfl (ao_ HT_) ?_
           refine pd_ 48 59 (lb_ 52 562949953421311) rfl rfl (ao_ HT_) ?_
           refine pd_ 49 60 (lb_ 52 1125899906842623) rfl rfl (ao_ HT_) ?_
           refine pu_ 50 61 (lb_ 52 2251799813685247) rfl rfl (ao_ HT_) ?_
           refine pu_ 51 62 (lb_ 52 4503599627370495) rfl rfl (ao_ HT_) ?_
           refine done_ (done_of HT_.out (by kernel_rfl)) ?_
           try go_wp2
           go_meet
           case rel => exact ⟨_, (false), (by first | rfl | (simp; done) | (simp [*]; done)), H', ⟨by have := HK1.out; first | omega | exact Nat.le_refl _⟩, ⟨bh_ HB⟩⟩
         ·replace c11 := Bool.eq_false_iff.mpr c11
          subst c11
          have H1 : (salvorref16_MayRegions.j1 k1 l0 x3_1 x4_1 true) = some r := by rw [if_neg (show ¬ (false = true) by decide)] at H; exact H
          clear H
          have H := H1
          clear H1
          have H' := Aside0.mk H
          clear H
          try go_wp2
          replace HB := Aside0.mk (below_drew1 HB.out)
          have p191 : 0 ≤ (x4_1 : Int) := of_decide_eq_true (by first | (with_reducible assumption) | assumption)
          have q191 : x4_1 < (l0.length : Int) := of_decide_eq_true (by first | (with_reducible assumption) | assumption)
          obtain ⟨ad191, e191, hx191_0, hx191_1, hx191_2⟩ := at_T23 HR0.out x4_1 p191 q191
          have hw191_2 := hx191_2
          have hw191_1 := hx191_1
          have hw191_0 := hx191_0
          cases e191
          replace hx191_0 := (HB.out.cell (World.block_lt_of_cell? w _ hx191_0)).trans hx191_0
          replace hx191_1 := (HB.out.cell (World.block_lt_of_cell? w _ hx191_1)).trans hx191_1
          replace hx191_2 := (HB.out.cell (World.block_lt_of_cell? w _ hx191_2)).trans hx191_2
          replace p191 := eq_true p191
          replace q191 := eq_true q191
          have p192 : 0 ≤ (x4_1 : Int) := of_decide_eq_true (by first | (with_reducible assumption) | assumption)
          have q192 : x4_1 < (l0.length : Int) := of_decide_eq_true (by first | (with_reducible assumption) | assumption)
          obtain ⟨ad192, e192, hx192_0, hx192_1, hx192_2⟩ := at_T23 HR0.out x4_1 p192 q192
          have hw192_2 := hx192_2
          have hw192_1 := hx192_1
          have hw192_0 := hx192_0
          obtain rfl : ad191 = ad192 := (by injection e192)
          replace hx192_0 := (HB.out.cell (World.block_lt_of_cell? w _ hx192_0)).trans hx192_0
          replace hx192_1 := (HB.out.cell (World.block_lt_of_cell? w _ hx192_1)).trans hx192_1
          replace hx192_2 := (HB.out.cell (World.block_lt_of_cell? w _ hx192_2)).trans hx192_2
          replace p192 := eq_true p192
          replace q192 := eq_true q192
          have p193 : 0 ≤ (x4_1 : Int) := of_decide_eq_true (by first | (with_reducible assumption) | assumption)
          have q193 : x4_1 < (l0.length : Int) := of_decide_eq_true (by first | (with_reducible assumption) | assumption)
          obtain ⟨ad193, e193, hx193_0, hx193_1, hx193_2⟩ := at_T23 HR0.out x4_1 p193 q193
          have hw193_2 := hx193_2
          have hw193_1 := hx193_1
          have hw193_0 := hx193_0
          obtain rfl : ad191 = ad193 := (by injection e193)
          replace hx193_0 := (HB.out.cell (World.block_lt_of_cell? w _ hx193_0)).trans hx193_0
          replace hx193_1 := (HB.out.cell (World.block_lt_of_cell? w _ hx193_1)).trans hx193_1
          replace hx193_2 := (HB.out.cell (World.block_lt_of_cell? w _ hx193_2)).trans hx193_2
          replace p193 := eq_true p193
          replace q193 := eq_true q193
          have p194 : 0 ≤ (x4_1 : Int) := of_decide_eq_true (by first | (with_reducible assumption) | assumption)
          have q194 : x4_1 < (l0.length : Int) := of_decide_eq_true (by first | (with_reducible assumption) | assumption)
          obtain ⟨ad194, e194, hx194_0, hx194_1, hx194_2⟩ := at_T23 HR0.out x4_1 p194 q194
          have hw194_2 := hx194_2
          have hw194_1 := hx194_1
          have hw194_0 := hx194_0
          obtain rfl : ad191 = ad194 := (by injection e194)
          replace hx194_0 := (HB.out.cell (World.block_lt_of_cell? w _ hx194_0)).trans hx194_0
          replace hx194_1 := (HB.out.cell (World.block_lt_of_cell? w _ hx194_1)).trans hx194_1
          replace hx194_2 := (HB.out.cell (World.block_lt_of_cell? w _ hx194_2)).trans hx194_2
          replace p194 := eq_true p194
          replace q194 := eq_true q194
          refine start_ (n := 52) (S := fun w' => w'.cell? (ad191.add ((x4_1).toNat * 3)) = some (.int .i64 ((rd_T23 l0 x4_1).f0)) ∧ w'.cell? ⟨(ad191.add ((x4_1).toNat * 3)).block, (ad191.add ((x4_1).toNat * 3)).off + 1, none⟩ = some (.int .i64 ((rd_T23 l0 x4_1).f1)) ∧ w'.cell? ⟨(ad191.add ((x4_1).toNat * 3)).block, (ad191.add ((x4_1).toNat * 3)).off + 2, none⟩ = some (.int .u8 ((rd_T23 l0 x4_1).f2)) ∧ w'.cell? (ad191.add ((x4_1).toNat * 3)) = some (.int .i64 ((rd_T23 l0 x4_1).f0)) ∧ w'.cell? ⟨(ad191.add ((x4_1).toNat * 3)).block, (ad191.add ((x4_1).toNat * 3)).off + 1, none⟩ = some (.int .i64 ((rd_T23 l0 x4_1).f1)) ∧ w'.cell? ⟨(ad191.add ((x4_1).toNat * 3)).block, (ad191.add ((x4_1).toNat * 3)).off + 2, none⟩ = some (.int .u8 ((rd_T23 l0 x4_1).f2)) ∧ w'.cell? (ad191.add ((x4_1).toNat * 3)) = some (.int .i64 ((rd_T23 l0 x4_1).f0)) ∧ w'.cell? ⟨(ad191.add ((x4_1).toNat * 3)).block, (ad191.add ((x4_1).toNat * 3)).off + 1, none⟩ = some (.int .i64 ((rd_T23 l0 x4_1).f1)) ∧ w'.cell? ⟨(ad191.add ((x4_1).toNat * 3)).block, (ad191.add ((x4_1).toNat * 3)).off + 2, none⟩ = some (.int .u8 ((rd_T23 l0 x4_1).f2)) ∧ w'.cell? (ad191.add ((x4_1).toNat * 3)) = some (.int .i64 ((rd_T23 l0 x4_1).f0)) ∧ w'.cell? ⟨(ad191.add ((x4_1).toNat * 3)).block, (ad191.add ((x4_1).toNat * 3)).off + 1, none⟩ = some (.int .i64 ((rd_T23 l0 x4_1).f1)) ∧ w'.cell? ⟨(ad191.add ((x4_1).toNat * 3)).block, (ad191.add ((x4_1).toNat * 3)).off + 2, none⟩ = some (.int .u8 ((rd_T23 l0 x4_1).f2))) (ds := []) #[false, false, false, false, false, false, false, false, false, false, false, false, false, false, false, false, false, false, false, false, false, false, false, false, false, false, false, false, false, false, false, false, false, false, false, false, false, false, false, false, false, false, false, false, false, false, false, false, false, false, false, false] (by kernel_rfl) rfl rfl ⟨((HB.out.cell (World.block_lt_of_cell? w _ hw191_0)).trans hw191_0), ((HB.out.cell (World.block_lt_of_cell? w _ hw191_1)).trans hw191_1), ((HB.out.cell (World.block_lt_of_cell? w _ hw191_2)).trans hw191_2), ((HB.out.cell (World.block_lt_of_cell? w _ hw192_0)).trans hw192_0), ((HB.out.cell (World.block_lt_of_cell? w _ hw192_1)).trans hw192_1), ((HB.out.cell (World.block_lt_of_cell? w _ hw192_2)).trans hw192_2), ((HB.out.cell (World.block_lt_of_cell? w _ hw193_0)).trans hw193_0), ((HB.out.cell (World.block_lt_of_cell? w _ hw193_1)).trans hw193_1), ((HB.out.cell (World.block_lt_of_cell? w _ hw193_2)).trans hw193_2), ((HB.out.cell (World.block_lt_of_cell? w _ hw194_0)).trans hw194_0), ((HB.out.cell (World.block_lt_of_cell? w _ hw194_1)).trans hw194_1), ((HB.out.cell (World.block_lt_of_cell? w _ hw194_2)).trans hw194_2)⟩ (fun hHeld => ?_); refine with_tabW salvorref16_MayRegions.tab5 salvorref16_MayRegions.bits5 (fun HT_ HW_ => ?_)
          generalize wr.drew = w18 at HB hx191_0 hx191_1 hx191_2 hx192_0 hx192_1 hx192_2 hx193_0 hx193_1 hx193_2 hx194_0 hx194_1 hx194_2 hHeld ⊢
          refine pu_ 0 11 (lb_ 52 1) rfl rfl (ao_ HT_) ?_
          refine pu_ 1 12 (lb_ 52 3) rfl rfl (ao_ HT_) ?_
          refine pu_ 2 13 (lb_ 52 7) rfl rfl (ao_ HT_) ?_
          refine pu_ 3 14 (lb_ 52 15) rfl rfl (ao_ HT_) ?_
          refine pu_ 5 16 (lb_ 52 47) rfl rfl (ao_ HT_) ?_
          refine tk_ 4 15 (lb_ 52 63) rfl rfl (take_ofW HT_.out HW_.out (by kernel_rfl)) hHeld ?_
          refine pu_ 6 17 (lb_ 52 127) rfl rfl (ao_ HT_) ?_
          refine pu_ 7 18 (lb_ 52 255) rfl rfl (ao_ HT_) ?_
          refine pu_ 8 19 (lb_ 52 511) rfl rfl (ao_ HT_) ?_
          refine pu_ 9 20 (lb_ 52 1023) rfl rfl (ao_ HT_) ?_
          refine pu_ 10 21 (lb_ 52 2047) rfl rfl (ao_ HT_) ?_
          refine pu_ 11 22 (lb_ 52 4095) rfl rfl (ao_ HT_) ?_
          refine tk_ 12 23 (lb_ 52 8191) rfl rfl (take_ofW HT_.out HW_.out (by kernel_rfl)) hHeld ?_
          refine pu_ 13 24 (lb_ 52 16383) rfl rfl (ao_ HT_) ?_
          refine pu_ 14 25 (lb_ 52 32767) rfl rfl (ao_ HT_) ?_
          refine pu_ 15 26 (lb_ 52 65535) rfl rfl (ao_ HT_) ?_
          refine pu_ 16 27 (lb_ 52 131071) rfl rfl (ao_ HT_) ?_
          refine pu_ 17 28 (lb_ 52 262143) rfl rfl (ao_ HT_) ?_
          refine pu_ 18 29 (lb_ 52 524287) rfl rfl (ao_ HT_) ?_
          refine pu_ 19 30 (lb_ 52 1048575) rfl rfl (ao_ HT_) ?_
          refine pu_ 21 32 (lb_ 52 3145727) rfl rfl (ao_ HT_) ?_
          refine pu_ 22 33 (lb_ 52 7340031) rfl rfl (ao_ HT_) ?_
          refine tk_ 20 31 (lb_ 52 8388607) rfl rfl (take_ofW HT_.out HW_.out (by kernel_rfl)) hHeld ?_
          refine pu_ 23 34 (lb_ 52 16777215) rfl rfl (ao_ HT_) ?_
          refine pu_ 24 35 (lb_ 52 33554431) rfl rfl (ao_ HT_) ?_
          refine pu_ 25 36 (lb_ 52 67108863) rfl rfl (ao_ HT_) ?_
          refine pu_ 26 37 (lb_ 52 134217727) rfl rfl (ao_ HT_) ?_
          refine pu_ 27 38 (lb_ 52 268435455) rfl rfl (ao_ HT_) ?_
          refine pu_ 28 39 (lb_ 52 536870911) rfl rfl (ao_ HT_) ?_
          refine pu_ 29 40 (lb_ 52 1073741823) rfl rfl (ao_ HT_) ?_
          refine tk_ 30 41 (lb_ 52 2147483647) rfl rfl (take_ofW HT_.out HW_.out (by kernel_rfl)) hHeld ?_
          refine one_ (i := 31) (N := some 42) #[true, true, true, true, true, true, true, true, true, true, true, true, true, true, true, true, true, true, true, true, true, true, true, true, true, true, true, true, true, true, true, true, false, false, false, false, false, false, false, false, false, false, false, false, false, false, false, false, false, false, false, false] rfl rfl (one_of HT_.out (by kernel_rfl)) (by decide) (fun K hK => ?_)
          refine gq_ Tryz.func40 (by kernel_rfl) rfl #[.int .u8 ((rd_T23 l0 x4_1).f2)] (by rfl) rfl rfl ?_
          with_reducible refine (salvorref16_status.calls ((rd_T23 l0 x4_1).f2) false _ A10.out).mono ?_
          rintro e w' ⟨rfl, ⟨nd, rfl⟩⟩
          refine ⟨_, rfl, ?_⟩
          refine hK.out _ _ ⟨((HB.out.cell (World.block_lt_of_cell? w _ hw191_0)).trans hw191_0), ((HB.out.cell (World.block_lt_of_cell? w _ hw191_1)).trans hw191_1), ((HB.out.cell (World.block_lt_of_cell? w _ hw191_2)).trans hw191_2), ((HB.out.cell (World.block_lt_of_cell? w _ hw192_0)).trans hw192_0), ((HB.out.cell (World.block_lt_of_cell? w _ hw192_1)).trans hw192_1), ((HB.out.cell (World.block_lt_of_cell? w _ hw192_2)).trans hw192_2), ((HB.out.cell (World.block_lt_of_cell? w _ hw193_0)).trans hw193_0), ((HB.out.cell (World.block_lt_of_cell? w _ hw193_1)).trans hw193_1), ((HB.out.cell (World.block_lt_of_cell? w _ hw193_2)).trans hw193_2), ((HB.out.cell (World.block_lt_of_cell? w _ hw194_0)).trans hw194_0), ((HB.out.cell (World.block_lt_of_cell? w _ hw194_1)).trans hw194_1), ((HB.out.cell (World.block_lt_of_cell? w _ hw194_2)).trans hw194_2)⟩ (fun hHeld => ?_)
          clear hK K
          refine nm_ 42 ?_
          refine pu_ 32 43 (lb_ 52 8589934591) rfl rfl (ao_ HT_) ?_
          refine pu_ 33 44 (lb_ 52 17179869183) rfl rfl (ao_ HT_) ?_
          refine pu_ 34 45 (lb_ 52 34359738367) rfl rfl (ao_ HT_) ?_
          refine pd_ 35 46 (lb_ 52 68719476735) rfl rfl (ao_ HT_) ?_
          refine pd_ 36 47 (lb_ 52 137438953471) rfl rfl (ao_ HT_) ?_
          refine pd_ 37 48 (lb_ 52 274877906943) rfl rfl (ao_ HT_) ?_
          refine pd_ 38 49 (lb_ 52 549755813887) rfl rfl (ao_ HT_) ?_
          refine pd_ 39 50 (lb_ 52 1099511627775) rfl rfl (ao_ HT_) ?_
          refine pd_ 40 51 (lb_ 52 2199023255551) rfl rfl (ao_ HT_) ?_
          refine pd_ 41 52 (lb_ 52 4398046511103) rfl rfl (ao_ HT_) ?_
          refine pd_ 42 53 (lb_ 52 8796093022207) rfl rfl (ao_ HT_) ?_
          refine pd_ 43 54 (lb_ 52 17592186044415) rfl rfl (ao_ HT_) ?_
          refine pd_ 44 55 (lb_ 52 35184372088831) rfl rfl (ao_ HT_) ?_
          refine pd_ 45 56 (lb_ 52 70368744177663) rfl rfl (ao_ HT_) ?_
          refine pd_ 46 57 (lb_ 52 140737488355327) rfl rfl (ao_ HT_) ?_
          refine pd_ 47 58 (lb_ 52 281474976710655) rfl rfl (ao_ HT_) ?_
          refine pd_ 48 59 (lb_ 52 562949953421311) rfl rfl (ao_ HT_) ?_
          refine pd_ 49 60 (lb_ 52 1125899906842623) rfl rfl (ao_ HT_) ?_
          refine pd_ 50 61 (lb_ 52 2251799813685247) rfl rfl (ao_ HT_) ?_
          refine pu_ 51 62 (lb_ 52 4503599627370495) rfl rfl (ao_ HT_) ?_
          refine done_ (done_of HT_.out (by kernel_rfl)) ?_
          try go_wp2
          go_meet
          case rel => exact ⟨_, (true), (by first | rfl | (simp; done) | (simp [*]; done)), H', ⟨by have := HK1.out; first | omega | exact Nat.le_refl _⟩, ⟨bh_ HB⟩⟩
      ·rw [if_neg c5] at H
       have c5b0 : (((rd_T23 l0 x4_1).f0) == x3_1) = false := beq_eq_false_iff_ne.mpr c5
       have c5b1 : (((rd_T23 l0 x4_1).f0) != x3_1) = true := bne_iff_ne.mpr c5
       have H' := Aside0.mk H
       clear H
       try go_wp2
       replace HB := Aside0.mk (below_drew1 HB.out)
       have p191 : 0 ≤ (x4_1 : Int) := of_decide_eq_true (by first | (with_reducible assumption) | assumption)
       have q191 : x4_1 < (l0.length : Int) := of_decide_eq_true (by first | (with_reducible assumption) | assumption)
       obtain ⟨ad191, e191, hx191_0, hx191_1, hx191_2⟩ := at_T23 HR0.out x4_1 p191 q191
       have hw191_2 := hx191_2
       have hw191_1 := hx191_1
       have hw191_0 := hx191_0
       cases e191
       replace hx191_0 := (HB.out.cell (World.block_lt_of_cell? w _ hx191_0)).trans hx191_0
       replace hx191_1 := (HB.out.cell (World.block_lt_of_cell? w _ hx191_1)).trans hx191_1
       replace hx191_2 := (HB.out.cell (World.block_lt_of_cell? w _ hx191_2)).trans hx191_2
       replace p191 := eq_true p191
       replace q191 := eq_true q191
       refine start_ (n := 52) (S := fun w' => w'.cell? (ad191.add ((x4_1).toNat * 3)) = some (.int .i64 ((rd_T23 l0 x4_1).f0)) ∧ w'.cell? ⟨(ad191.add ((x4_1).toNat * 3)).block, (ad191.add ((x4_1).toNat * 3)).off + 1, none⟩ = some (.int .i64 ((rd_T23 l0 x4_1).f1)) ∧ w'.cell? ⟨(ad191.add ((x4_1).toNat * 3)).block, (ad191.add ((x4_1).toNat * 3)).off + 2, none⟩ = some (.int .u8 ((rd_T23 l0 x4_1).f2))) (ds := []) #[false, false, false, false, false, false, false, false, false, false, false, false, false, false, false, false, false, false, false, false, false, false, false, false, false, false, false, false, false, false, false, false, false, false, false, false, false, false, false, false, false, false, false, false, false, false, false, false, false, false, false, false] (by kernel_rfl) rfl rfl ⟨((HB.out.cell (World.block_lt_of_cell? w _ hw191_0)).trans hw191_0), ((HB.out.cell (World.block_lt_of_cell? w _ hw191_1)).trans hw191_1), ((HB.out.cell (World.block_lt_of_cell? w _ hw191_2)).trans hw191_2)⟩ (fun hHeld => ?_); refine with_tabW salvorref16_MayRegions.tab5 salvorref16_MayRegions.bits5 (fun HT_ HW_ => ?_)
       generalize wr.drew = w19 at HB hx191_0 hx191_1 hx191_2 hHeld ⊢
       refine pu_ 0 11 (lb_ 52 1) rfl rfl (ao_ HT_) ?_
       refine pu_ 1 12 (lb_ 52 3) rfl rfl (ao_ HT_) ?_
       refine pu_ 2 13 (lb_ 52 7) rfl rfl (ao_ HT_) ?_
       refine pu_ 3 14 (lb_ 52 15) rfl rfl (ao_ HT_) ?_
       refine pu_ 5 16 (lb_ 52 47) rfl rfl (ao_ HT_) ?_
       refine tk_ 4 15 (lb_ 52 63) rfl rfl (take_ofW HT_.out HW_.out (by kernel_rfl)) hHeld ?_
       refine pu_ 6 17 (lb_ 52 127) rfl rfl (ao_ HT_) ?_
       refine pu_ 7 18 (lb_ 52 255) rfl rfl (ao_ HT_) ?_
       refine pd_ 8 19 (lb_ 52 511) rfl rfl (ao_ HT_) ?_
       refine pd_ 9 20 (lb_ 52 1023) rfl rfl (ao_ HT_) ?_
       refine pd_ 10 21 (lb_ 52 2047) rfl rfl (ao_ HT_) ?_
       refine pd_ 11 22 (lb_ 52 4095) rfl rfl (ao_ HT_) ?_
       refine pd_ 12 23 (lb_ 52 8191) rfl rfl (ao_ HT_) ?_
       refine pd_ 13 24 (lb_ 52 16383) rfl rfl (ao_ HT_) ?_
       refine pu_ 14 25 (lb_ 52 32767) rfl rfl (ao_ HT_) ?_
       refine pu_ 15 26 (lb_ 52 65535) rfl rfl (ao_ HT_) ?_
       refine pd_ 16 27 (lb_ 52 131071) rfl rfl (ao_ HT_) ?_
       refine pd_ 17 28 (lb_ 52 262143) rfl rfl (ao_ HT_) ?_
       refine pd_ 18 29 (lb_ 52 524287) rfl rfl (ao_ HT_) ?_
       refine pd_ 19 30 (lb_ 52 1048575) rfl rfl (ao_ HT_) ?_
       refine pd_ 20 31 (lb_ 52 2097151) rfl rfl (ao_ HT_) ?_
       refine pd_ 21 32 (lb_ 52 4194303) rfl rfl (ao_ HT_) ?_
       refine pd_ 22 33 (lb_ 52 8388607) rfl rfl (ao_ HT_) ?_
       refine pd_ 23 34 (lb_ 52 16777215) rfl rfl (ao_ HT_) ?_
       refine pu_ 24 35 (lb_ 52 33554431) rfl rfl (ao_ HT_) ?_
       refine pu_ 25 36 (lb_ 52 67108863) rfl rfl (ao_ HT_) ?_
       refine pd_ 26 37 (lb_ 52 134217727) rfl rfl (ao_ HT_) ?_
       refine pd_ 27 38 (lb_ 52 268435455) rfl rfl (ao_ HT_) ?_
       refine pd_ 28 39 (lb_ 52 536870911) rfl rfl (ao_ HT_) ?_
       refine pd_ 29 40 (lb_ 52 1073741823) rfl rfl (ao_ HT_) ?_
       refine pd_ 30 41 (lb_ 52 2147483647) rfl rfl (ao_ HT_) ?_
       refine pd_ 31 42 (lb_ 52 4294967295) rfl rfl (ao_ HT_) ?_
       refine pd_ 32 43 (lb_ 52 8589934591) rfl rfl (ao_ HT_) ?_
       refine pu_ 33 44 (lb_ 52 17179869183) rfl rfl (ao_ HT_) ?_
       refine pu_ 34 45 (lb_ 52 34359738367) rfl rfl (ao_ HT_) ?_
       refine pd_ 35 46 (lb_ 52 68719476735) rfl rfl (ao_ HT_) ?_
       refine pd_ 36 47 (lb_ 52 137438953471) rfl rfl (ao_ HT_) ?_
       refine pd_ 37 48 (lb_ 52 274877906943) rfl rfl (ao_ HT_) ?_
       refine pd_ 38 49 (lb_ 52 549755813887) rfl rfl (ao_ HT_) ?_
       refine pd_ 39 50 (lb_ 52 1099511627775) rfl rfl (ao_ HT_) ?_
       refine pd_ 40 51 (lb_ 52 2199023255551) rfl rfl (ao_ HT_) ?_
       refine pd_ 41 52 (lb_ 52 4398046511103) rfl rfl (ao_ HT_) ?_
       refine pd_ 42 53 (lb_ 52 8796093022207) rfl rfl (ao_ HT_) ?_
       refine pd_ 43 54 (lb_ 52 17592186044415) rfl rfl (ao_ HT_) ?_
       refine pd_ 44 55 (lb_ 52 35184372088831) rfl rfl (ao_ HT_) ?_
       refine pd_ 45 56 (lb_ 52 70368744177663) rfl rfl (ao_ HT_) ?_
       refine pd_ 46 57 (lb_ 52 140737488355327) rfl rfl (ao_ HT_) ?_
       refine pd_ 47 58 (lb_ 52 281474976710655) rfl rfl (ao_ HT_) ?_
       refine pd_ 48 59 (lb_ 52 562949953421311) rfl rfl (ao_ HT_) ?_
       refine pd_ 49 60 (lb_ 52 1125899906842623) rfl rfl (ao_ HT_) ?_
       refine pd_ 50 61 (lb_ 52 2251799813685247) rfl rfl (ao_ HT_) ?_
       refine pu_ 51 62 (lb_ 52 4503599627370495) rfl rfl (ao_ HT_) ?_
       refine done_ (done_of HT_.out (by kernel_rfl)) ?_
       try go_wp2
       go_meet
       case rel => exact ⟨_, (true), (by first | rfl | (simp; done) | (simp [*]; done)), H', ⟨by have := HK1.out; first | omega | exact Nat.le_refl _⟩, ⟨bh_ HB⟩⟩
     ·rw [if_neg c4] at H
      exact absurd H (by simp)
    case rest =>
     clear HC3
     try clear p1
     try clear q1
     try clear hx1
     try clear p2
     try clear c4
     try clear c5
     try clear c5b0
     try clear c5b1
     try clear p19
     try clear q19
     try clear hx19
     try clear hx191_0
     try clear hx191_1
     try clear hx191_2
     try clear p191
     try clear q191
     obtain ⟨kq, x62_2, rfl, HA, HJ2, HB⟩ := hcut
     cases kq with
     | zero => exact absurd HA.out (by simp [salvorref16_MayRegions.j1])
     | succ kj2 =>
      have H := HA.out
      clear HA
      simp only [salvorref16_MayRegions.j1] at H
      by_cases c20 : x62_2 = true
      ·subst c20
       have H1 : (some false) = some r := by rw [if_pos rfl] at H; exact H
       clear H
       have H := H1
       clear H1
       obtain rfl := Option.some.inj H
       go_wp2
       go_ret
       exact ⟨by first | rfl | (simp [errW_none, errW_some] <;> rfl) | (simp [*, errW_none, errW_some] <;> rfl), bh_ HB⟩
      ·replace c20 := Bool.eq_false_iff.mpr c20
       subst c20
       have H1 : (if 0 ≤ x4_1 then (if x4_1 < (l0.length : Int) then (salvorref16_MayRegions.l0 kj2 l0 (wrap64 (x3_1 + ((rd_T23 l0 x4_1).f1))) (wrap64 (x4_1 + 1))) else (none)) else (none)) = some r := by rw [if_neg (show ¬ (false = true) by decide)] at H; exact H
       clear H
       have H := H1
       clear H1
       by_cases c21 : 0 ≤ x4_1
       ·rw [if_pos c21] at H
        have c21b0 : decide (0 ≤ x4_1) = true := decide_eq_true c21
        clear c21
        by_cases c22 : x4_1 < (l0.length : Int)
        ·rw [if_pos c22] at H
         have c22b0 : decide (x4_1 < (l0.length : Int)) = true := decide_eq_true c22
         clear c22
         have H' := Aside0.mk H
         clear H
         have p198 : 0 ≤ (x4_1 : Int) := of_decide_eq_true (by first | (with_reducible assumption) | assumption)
         have q198 : x4_1 < (l0.length : Int) := of_decide_eq_true (by first | (with_reducible assumption) | assumption)
         obtain ⟨ad198, e198, hx198_0, hx198_1, hx198_2⟩ := at_T23 HR0.out x4_1 p198 q198
         cases e198
         replace hx198_0 := (HB.out.cell (World.block_lt_of_cell? w _ hx198_0)).trans hx198_0
         replace hx198_1 := (HB.out.cell (World.block_lt_of_cell? w _ hx198_1)).trans hx198_1
         replace hx198_2 := (HB.out.cell (World.block_lt_of_cell? w _ hx198_2)).trans hx198_2
         replace p198 := eq_true p198
         replace q198 := eq_true q198
         go_wp2
         go_roundg kj2
         case measure => have := HK1.out; have := HJ2.out; omega
         case rel => exact ⟨(wrap64 (x3_1 + ((rd_T23 l0 x4_1).f1))), (wrap64 (x4_1 + 1)), (by first | rfl | (simp; done) | (simp [*]; done)), (by first | rfl | (simp; done) | (simp [*]; done)), H', ⟨by have := HK1.out; have := HJ2.out; omega⟩, ⟨bh_ HB⟩⟩
        ·rw [if_neg c22] at H
         exact absurd H (by simp)
       ·rw [if_neg c21] at H
        exact absurd H (by simp)
   ·rw [if_neg c2] at H
    have c2b0 : decide (x4_1 < (l0.length : Int)) = false := decide_eq_false c2
    clear c2
    obtain rfl := Option.some.inj H
    go_wp2
    go_ret
    exact ⟨by first | rfl | (simp [errW_none, errW_some] <;> rfl) | (simp [*, errW_none, errW_some] <;> rfl), bh_ HB⟩

end Go.Proofs.YtlcablcpcbmgeaaGreatDoor.P
