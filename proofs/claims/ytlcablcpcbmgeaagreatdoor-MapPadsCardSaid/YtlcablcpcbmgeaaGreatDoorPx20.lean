/- Laid by a program of this session's own (wip/wprint.py, over the kit's print.py): functions of the given program as plain Lean functions, and that the program's calls come to their answers. -/
import Derived.Test.YtlcablcpcbmgeaaGreatDoorPx0
import Derived.Test.YtlcablcpcbmgeaaGreatDoorPx4
import Derived.Test.YtlcablcpcbmgeaaGreatDoorPx18
import Derived.Test.YtlcablcpcbmgeaaGreatDoorPx19
namespace Go.Proofs.YtlcablcpcbmgeaaGreatDoor.P
open Go.RowKit Go.Proofs.YtlcablcpcbmgeaaGreatDoorW.PrintWords Go.Proofs.YtlcablcpcbmgeaaGreatDoorW.PrintLast Go.Proofs.YtlcablcpcbmgeaaGreatDoorW.PrintMore
attribute [local go_sem] max2_int min2_int max_two min_two max_three min_three max_four min_four   -- for this text's walks alone
set_option linter.unusedVariables false
set_option linter.unusedSimpArgs false

/-! ### maptext_regions: function 33 -/
def maptext_regions.l0 : Nat → List (S23) → List (List ByteArray) → Int → Int → Option ((List (S23)) × Bool)
 | 0, _, _, _, _ => none
 | k + 1, x4, x13, x14, x15 => if x15 < x14 then (if 0 ≤ x15 then (if x15 < (x13.length : Int) then (if 0 < ((rd_L6 x13 x15).length : Int) then ((maptext_place.f (rdOf ByteArray.empty (rd_L6 x13 x15) 0)).bind fun bt151 => (if 1 < ((rd_L6 x13 x15).length : Int) then ((maptext_place.f (rdOf ByteArray.empty (rd_L6 x13 x15) 1)).bind fun bt154 => (if 2 < ((rd_L6 x13 x15).length : Int) then ((maptext_status.f (rdOf ByteArray.empty (rd_L6 x13 x15) 2)).bind fun bt157 => (if bt151.2 = true then (if bt154.2 = true then (if bt157.2 = true then ((region_End.f k x4).bind fun t159 => (if bt151.1 = t159 then (if bt154.1 < 1 then (some (([] : List (S23)), false)) else (if bt154.1 > (wrap64 (1099511627776 - bt151.1)) then (some (([] : List (S23)), false)) else ((region_Push.f x4 bt154.1 bt157.1).bind fun t160 => (maptext_regions.l0 k t160 x13 x14 (wrap64 (x15 + 1)))))) else (some (([] : List (S23)), false)))) else (some (([] : List (S23)), false))) else (some (([] : List (S23)), false))) else (some (([] : List (S23)), false)))) else (none))) else (none))) else (none)) else (none)) else (none)) else (some (x4, true))
def maptext_regions.f (k : Nat) (l0 : List (List ByteArray)) : Option ((List (S23)) × Bool) := maptext_regions.l0 k ([] : List (S23)) l0 (l0.length : Int) 0
theorem maptext_regions.mono_l : ∀ k, (∀ y0 y1 y2 y3, LeO (maptext_regions.l0 k y0 y1 y2 y3) (maptext_regions.l0 (k + 1) y0 y1 y2 y3))
 | 0 => fun _ _ _ _ r h => by simp [maptext_regions.l0] at h
 | k + 1 => by
  have ih0 := maptext_regions.mono_l k
  ·intro y0 y1 y2 y3
   unfold maptext_regions.l0
   repeat' first
   | (with_reducible exact ih0 _ _ _ _)
   | (with_reducible exact region_End.mono _ _)
   | (with_reducible exact LeO.refl _)
   | (with_reducible exact LeO.none _)
   | (with_reducible refine LeO.ite ?_ ?_)
   | (with_reducible refine LeO.bind ?_ (fun _ => ?_))
   | exact ih0 _ _ _ _
   | exact region_End.mono _ _
   | exact LeO.none _
   | refine LeO.ite ?_ ?_
   | refine LeO.bind ?_ (fun _ => ?_)
theorem maptext_regions.mono : ∀ a0 k, LeO (maptext_regions.f k a0) (maptext_regions.f (k + 1) a0) := by
 intro a0 k
 have ih0 := maptext_regions.mono_l k
 unfold maptext_regions.f
 repeat' first
   | (with_reducible exact ih0 _ _ _ _)
   | (with_reducible exact region_End.mono _ _)
   | (with_reducible exact LeO.refl _)
   | (with_reducible exact LeO.none _)
   | (with_reducible refine LeO.ite ?_ ?_)
   | (with_reducible refine LeO.bind ?_ (fun _ => ?_))
   | exact ih0 _ _ _ _
   | exact region_End.mono _ _
   | exact LeO.none _
   | refine LeO.ite ?_ ?_
   | refine LeO.bind ?_ (fun _ => ?_)
set_option maxHeartbeats 8000000 in
set_option maxRecDepth 100000 in
theorem maptext_regions.calls (k : Nat) (A0 : Option Addr) (c0 : Nat) (l0 : List (List ByteArray)) (r1 : List (S23)) (r2 : Bool) (w : World) (hr0 : Kd.C (Kd.slice 9 Kd.string) w A0 l0.length l0) (hc0 : l0.length ≤ c0) (h : maptext_regions.f k l0 = some (r1, r2)) (htab : TabAt w) :
  Calls Tryz.prog 33 #[.slice A0 l0.length c0] w fun e w' => ∃ v0_ : Value, e = .returned (.tuple #[v0_, .bool r2]) ∧ Kd.R k23 23 w' w.heap.size (fun _ => True) v0_ r1 ∧ Below w.heap.size w w' := by
 have HTAB := Aside0.mk htab
 clear htab
 have HR0 := Aside0.mk hr0
 have HC0 := Aside0.mk hc0
 clear hr0 hc0
 have HB := Aside0.mk (Below.refl w.heap.size w)
 have H : (maptext_regions.l0 k ([] : List (S23)) l0 (l0.length : Int) 0) = some (r1, r2) := h
 clear h
 have H' := Aside0.mk H
 clear H
 go_enter Tryz.func33, Tryz.ntmps33
 go_wp2
 go_loopg [4, 15] k (fun kq v4 v15 w' => ∃ (x4_1 : List (S23)) (x15_1 : Int), v15 = .int .i64 x15_1 ∧ Aside0 (maptext_regions.l0 kq x4_1 l0 (l0.length : Int) x15_1 = some (r1, r2)) ∧ Aside0 (kq ≤ k) ∧ Aside0 (Kd.R k23 23 w' w.heap.size (fun _ => True) v4 x4_1) ∧ Aside0 (Below w.heap.size w w'))
 case atStart => exact ⟨(([] : List (S23))), (0), (by first | rfl | (simp; done) | (simp [*]; done)), H', ⟨Nat.le_refl _⟩, ⟨by first | exact Kd.R_nil _ _ _ _ _ | exact Kd.N_nil _ _ _ _ _ | exact Kd.V_nil _ _ _ _ _ | exact Kd.Q_nil _ _ _ _ _ | exact Kd.S_nil _ _ _ _ _⟩, ⟨bh_ HB⟩⟩
 case round =>
  clear H'
  obtain ⟨x4_1, x15_1, rfl, HA, HK1, HO_4, HB⟩ := hrel
  cases gk with
  | zero => exact absurd HA.out (by simp [maptext_regions.l0])
  | succ k1 =>
   have H := HA.out
   clear HA
   simp only [maptext_regions.l0] at H
   by_cases c2 : x15_1 < (l0.length : Int)
   ·rw [if_pos c2] at H
    have c2b0 : decide (x15_1 < (l0.length : Int)) = true := decide_eq_true c2
    clear c2
    by_cases c3 : 0 ≤ x15_1
    ·rw [if_pos c3] at H
     have c3b0 : decide (0 ≤ x15_1) = true := decide_eq_true c3
     clear c3
     by_cases c4 : x15_1 < (l0.length : Int)
     ·rw [if_pos c4] at H
      have c4b0 : decide (x15_1 < (l0.length : Int)) = true := decide_eq_true c4
      clear c4
      by_cases c5 : 0 < ((rd_L6 l0 x15_1).length : Int)
      ·rw [if_pos c5] at H
       have c5b0 : decide (0 < ((rd_L6 l0 x15_1).length : Int)) = true := decide_eq_true c5
       have c5b1 : decide (0 < (rd_L6 l0 x15_1).length) = true := decide_eq_true (by omega)
       clear c5
       replace H := Option.bind_eq_some_iff.mp H
       obtain ⟨⟨t151, t152⟩, A60, H⟩ := H
       replace H : (if 1 < ((rd_L6 l0 x15_1).length : Int) then ((maptext_place.f (rdOf ByteArray.empty (rd_L6 l0 x15_1) 1)).bind fun bt154 => (if 2 < ((rd_L6 l0 x15_1).length : Int) then ((maptext_status.f (rdOf ByteArray.empty (rd_L6 l0 x15_1) 2)).bind fun bt157 => (if t152 = true then (if bt154.2 = true then (if bt157.2 = true then ((region_End.f k1 x4_1).bind fun t159 => (if t151 = t159 then (if bt154.1 < 1 then (some (([] : List (S23)), false)) else (if bt154.1 > (wrap64 (1099511627776 - t151)) then (some (([] : List (S23)), false)) else ((region_Push.f x4_1 bt154.1 bt157.1).bind fun t160 => (maptext_regions.l0 k1 t160 l0 (l0.length : Int) (wrap64 (x15_1 + 1)))))) else (some (([] : List (S23)), false)))) else (some (([] : List (S23)), false))) else (some (([] : List (S23)), false))) else (some (([] : List (S23)), false)))) else (none))) else (none)) = some (r1, r2) := H
       have A6 := Aside0.mk A60
       clear A60
       by_cases c7 : 1 < ((rd_L6 l0 x15_1).length : Int)
       ·rw [if_pos c7] at H
        have c7b0 : decide (1 < ((rd_L6 l0 x15_1).length : Int)) = true := decide_eq_true c7
        have c7b1 : decide (1 < (rd_L6 l0 x15_1).length) = true := decide_eq_true (by omega)
        clear c7
        replace H := Option.bind_eq_some_iff.mp H
        obtain ⟨⟨t154, t155⟩, A80, H⟩ := H
        replace H : (if 2 < ((rd_L6 l0 x15_1).length : Int) then ((maptext_status.f (rdOf ByteArray.empty (rd_L6 l0 x15_1) 2)).bind fun bt157 => (if t152 = true then (if t155 = true then (if bt157.2 = true then ((region_End.f k1 x4_1).bind fun t159 => (if t151 = t159 then (if t154 < 1 then (some (([] : List (S23)), false)) else (if t154 > (wrap64 (1099511627776 - t151)) then (some (([] : List (S23)), false)) else ((region_Push.f x4_1 t154 bt157.1).bind fun t160 => (maptext_regions.l0 k1 t160 l0 (l0.length : Int) (wrap64 (x15_1 + 1)))))) else (some (([] : List (S23)), false)))) else (some (([] : List (S23)), false))) else (some (([] : List (S23)), false))) else (some (([] : List (S23)), false)))) else (none)) = some (r1, r2) := H
        have A8 := Aside0.mk A80
        clear A80
        by_cases c9 : 2 < ((rd_L6 l0 x15_1).length : Int)
        ·rw [if_pos c9] at H
         have c9b0 : decide (2 < ((rd_L6 l0 x15_1).length : Int)) = true := decide_eq_true c9
         have c9b1 : decide (2 < (rd_L6 l0 x15_1).length) = true := decide_eq_true (by omega)
         clear c9
         replace H := Option.bind_eq_some_iff.mp H
         obtain ⟨⟨t157, t158⟩, A100, H⟩ := H
         replace H : (if t152 = true then (if t155 = true then (if t158 = true then ((region_End.f k1 x4_1).bind fun t159 => (if t151 = t159 then (if t154 < 1 then (some (([] : List (S23)), false)) else (if t154 > (wrap64 (1099511627776 - t151)) then (some (([] : List (S23)), false)) else ((region_Push.f x4_1 t154 t157).bind fun t160 => (maptext_regions.l0 k1 t160 l0 (l0.length : Int) (wrap64 (x15_1 + 1)))))) else (some (([] : List (S23)), false)))) else (some (([] : List (S23)), false))) else (some (([] : List (S23)), false))) else (some (([] : List (S23)), false))) = some (r1, r2) := H
         have A10 := Aside0.mk A100
         clear A100
         by_cases c11 : t152 = true
         ·subst c11
          have H1 : (if t155 = true then (if t158 = true then ((region_End.f k1 x4_1).bind fun t159 => (if t151 = t159 then (if t154 < 1 then (some (([] : List (S23)), false)) else (if t154 > (wrap64 (1099511627776 - t151)) then (some (([] : List (S23)), false)) else ((region_Push.f x4_1 t154 t157).bind fun t160 => (maptext_regions.l0 k1 t160 l0 (l0.length : Int) (wrap64 (x15_1 + 1)))))) else (some (([] : List (S23)), false)))) else (some (([] : List (S23)), false))) else (some (([] : List (S23)), false))) = some (r1, r2) := by rw [if_pos rfl] at H; exact H
          clear H
          have H := H1
          clear H1
          by_cases c12 : t155 = true
          ·subst c12
           have H1 : (if t158 = true then ((region_End.f k1 x4_1).bind fun t159 => (if t151 = t159 then (if t154 < 1 then (some (([] : List (S23)), false)) else (if t154 > (wrap64 (1099511627776 - t151)) then (some (([] : List (S23)), false)) else ((region_Push.f x4_1 t154 t157).bind fun t160 => (maptext_regions.l0 k1 t160 l0 (l0.length : Int) (wrap64 (x15_1 + 1)))))) else (some (([] : List (S23)), false)))) else (some (([] : List (S23)), false))) = some (r1, r2) := by rw [if_pos rfl] at H; exact H
           clear H
           have H := H1
           clear H1
           by_cases c13 : t158 = true
           ·subst c13
            have H1 : ((region_End.f k1 x4_1).bind fun t159 => (if t151 = t159 then (if t154 < 1 then (some (([] : List (S23)), false)) else (if t154 > (wrap64 (1099511627776 - t151)) then (some (([] : List (S23)), false)) else ((region_Push.f x4_1 t154 t157).bind fun t160 => (maptext_regions.l0 k1 t160 l0 (l0.length : Int) (wrap64 (x15_1 + 1)))))) else (some (([] : List (S23)), false)))) = some (r1, r2) := by rw [if_pos rfl] at H; exact H
            clear H
            have H := H1
            clear H1
            replace H := Option.bind_eq_some_iff.mp H
            obtain ⟨t159, A140, H⟩ := H
            replace H : (if t151 = t159 then (if t154 < 1 then (some (([] : List (S23)), false)) else (if t154 > (wrap64 (1099511627776 - t151)) then (some (([] : List (S23)), false)) else ((region_Push.f x4_1 t154 t157).bind fun t160 => (maptext_regions.l0 k1 t160 l0 (l0.length : Int) (wrap64 (x15_1 + 1)))))) else (some (([] : List (S23)), false))) = some (r1, r2) := H
            have A14 := Aside0.mk A140
            clear A140
            by_cases c15 : t151 = t159
            ·rw [if_pos c15] at H
             have c15b0 : (t151 == t159) = true := beq_iff_eq.mpr c15
             have c15b1 : (t151 != t159) = false := bne_eq_false_iff_eq.mpr c15
             clear c15
             by_cases c16 : t154 < 1
             ·rw [if_pos c16] at H
              have c16b0 : decide (t154 < 1) = true := decide_eq_true c16
              clear c16
              simp only [Option.some.injEq, Prod.mk.injEq] at H
              obtain ⟨rfl, rfl⟩ := H
              have p149 : 0 ≤ (x15_1 : Int) := of_decide_eq_true (by first | (with_reducible assumption) | assumption)
              have q149 : x15_1 < (l0.length : Int) := of_decide_eq_true (by first | (with_reducible assumption) | assumption)
              obtain ⟨ad149, A149_0, c149_0, e149, hx149_0, hl149_0, hi149_0⟩ := at_L6 HR0.out x15_1 p149 q149
              cases e149
              replace hx149_0 := (HB.out.cell (World.block_lt_of_cell? w _ hx149_0)).trans hx149_0
              have HR149_0 := Aside0.mk hi149_0
              have HC149_0 := Aside0.mk hl149_0
              clear hi149_0 hl149_0
              replace p149 := eq_true p149
              replace q149 := eq_true q149
              have p150 : 0 ≤ (0 : Int) := (by omega)
              have q150 : 0 < ((rd_L6 l0 x15_1).length : Int) := of_decide_eq_true (by first | (with_reducible assumption) | assumption)
              obtain ⟨ad150, e150, hx150_0⟩ := Kd.at_string HR149_0.out 0 p150 q150
              cases e150
              have qi150 : (0 < (rd_L6 l0 x15_1).length) = True := eq_true (by omega)
              (try rw [show ((0 : Int)).toNat = 0 from rfl] at hx150_0)
              (try rw [Addr.add_zero'] at hx150_0)
              replace hx150_0 := (HB.out.cell (World.block_lt_of_cell? w _ hx150_0)).trans hx150_0
              replace p150 := eq_true p150
              replace q150 := eq_true q150
              go_wp2_with (first | ((with_reducible refine gate_callee (f := 30) rfl ?_); refine gl_ (some 23) rfl rfl Tryz.func30 (by kernel_rfl) rfl #[.string (rdOf ByteArray.empty (rd_L6 l0 x15_1) 0)] rfl ?_; (with_reducible refine (maptext_place.calls (rdOf ByteArray.empty (rd_L6 l0 x15_1) 0) t151 true _ A6.out ?tb0_).mono ?_); (case tb0_ => exact tb_ HTAB HB); rintro e w17 ⟨rfl, hb⟩; refine ⟨_, rfl, ?_⟩; have n0_ := Aside0.mk (Kd.R_below (by (with_reducible repeat (first | apply Kd.R_alloc | apply Kd.R_drewN | apply Kd.R_drew)); exact HO_4.out) hb); have n1_ := bs_ HB hb; clear HO_4; clear HB; have HO_4 := n0_; have HB := n1_; clear n0_ n1_; (try clear hb); have p153 : 0 ≤ (1 : Int) := (by omega); have q153 : 1 < ((rd_L6 l0 x15_1).length : Int) := of_decide_eq_true (by first | (with_reducible assumption) | assumption); obtain ⟨ad153, e153, hx153_0⟩ := Kd.at_string HR149_0.out 1 p153 q153; obtain rfl : ad150 = ad153 := (by injection e153); (try simp only [show (1 : Int).toNat = 1 from rfl, Nat.reduceMul, Nat.reduceEqDiff, Go.Addr.add, ↓reduceIte] at hx153_0); have qi153 : (1 < (rd_L6 l0 x15_1).length) = True := eq_true (by omega); (try rw [show ((1 : Int)).toNat = 1 from rfl] at hx153_0); replace hx153_0 := (HB.out.cell (World.block_lt_of_cell? w _ hx153_0)).trans hx153_0; replace p153 := eq_true p153; replace q153 := eq_true q153) | ((with_reducible refine gate_callee (f := 30) rfl ?_); refine gl_ (some 30) rfl rfl Tryz.func30 (by kernel_rfl) rfl #[.string (rdOf ByteArray.empty (rd_L6 l0 x15_1) 1)] rfl ?_; (with_reducible refine (maptext_place.calls (rdOf ByteArray.empty (rd_L6 l0 x15_1) 1) t154 true _ A8.out ?tb2_).mono ?_); (case tb2_ => exact tb_ HTAB HB); rintro e w18 ⟨rfl, hb⟩; refine ⟨_, rfl, ?_⟩; have n0_ := Aside0.mk (Kd.R_below (by (with_reducible repeat (first | apply Kd.R_alloc | apply Kd.R_drewN | apply Kd.R_drew)); exact HO_4.out) hb); have n1_ := bs_ HB hb; clear HO_4; clear HB; have HO_4 := n0_; have HB := n1_; clear n0_ n1_; (try clear hb); have p156 : 0 ≤ (2 : Int) := (by omega); have q156 : 2 < ((rd_L6 l0 x15_1).length : Int) := of_decide_eq_true (by first | (with_reducible assumption) | assumption); obtain ⟨ad156, e156, hx156_0⟩ := Kd.at_string HR149_0.out 2 p156 q156; obtain rfl : ad150 = ad156 := (by injection e156); (try simp only [show (2 : Int).toNat = 2 from rfl, Nat.reduceMul, Nat.reduceEqDiff, Go.Addr.add, ↓reduceIte] at hx156_0); have qi156 : (2 < (rd_L6 l0 x15_1).length) = True := eq_true (by omega); (try rw [show ((2 : Int)).toNat = 2 from rfl] at hx156_0); replace hx156_0 := (HB.out.cell (World.block_lt_of_cell? w _ hx156_0)).trans hx156_0; replace p156 := eq_true p156; replace q156 := eq_true q156) | ((with_reducible refine gate_callee (f := 31) rfl ?_); refine gl_ (some 37) rfl rfl Tryz.func31 (by kernel_rfl) rfl #[.string (rdOf ByteArray.empty (rd_L6 l0 x15_1) 2)] rfl ?_; (with_reducible refine (maptext_status.calls (rdOf ByteArray.empty (rd_L6 l0 x15_1) 2) t157 true _ A10.out).mono ?_); rintro e w' ⟨rfl, ⟨nd, rfl⟩⟩; refine ⟨_, rfl, ?_⟩; obtain ⟨Ao19, co19, eo19⟩ := Kd.R_slice HO_4.out; subst eo19) | (go_at_call 36; (with_reducible refine (region_End.calls k1 _ _ x4_1 t159 _ ?side1 ?side2 A14.out).mono ?_); (case side1 => repeat (first | exact (Kd.R_reads' HO_4.out).2.2 | (with_reducible refine Kd.C_alloc ?_ _) | (with_reducible refine Kd.C_drewN ?_ _) | (with_reducible refine Kd.C_drew ?_))); (case side2 => exact (Kd.R_reads' HO_4.out).2.1); rintro e w20 ⟨rfl, hb⟩; have n0_ := Aside0.mk (Kd.R_below (by (with_reducible repeat (first | apply Kd.R_alloc | apply Kd.R_drewN | apply Kd.R_drew)); exact HO_4.out) hb); have n1_ := bs_ HB hb; clear HO_4; clear HB; have HO_4 := n0_; have HB := n1_; clear n0_ n1_; (try clear hb)))
              go_ret2
              exact ⟨_, by first | rfl | (simp [errW_none, errW_some] <;> rfl) | (simp [*, errW_none, errW_some] <;> rfl), by first | exact Kd.R_nil _ _ _ _ _ | exact Kd.N_nil _ _ _ _ _ | exact Kd.V_nil _ _ _ _ _ | exact Kd.Q_nil _ _ _ _ _ | exact Kd.S_nil _ _ _ _ _, bh_ HB⟩
             ·rw [if_neg c16] at H
              have c16b0 : decide (t154 < 1) = false := decide_eq_false c16
              clear c16
              by_cases c21 : t154 > (wrap64 (1099511627776 - t151))
              ·rw [if_pos c21] at H
               have c21b0 : decide ((wrap64 (1099511627776 - t151)) < t154) = true := decide_eq_true c21
               clear c21
               simp only [Option.some.injEq, Prod.mk.injEq] at H
               obtain ⟨rfl, rfl⟩ := H
               have p149 : 0 ≤ (x15_1 : Int) := of_decide_eq_true (by first | (with_reducible assumption) | assumption)
               have q149 : x15_1 < (l0.length : Int) := of_decide_eq_true (by first | (with_reducible assumption) | assumption)
               obtain ⟨ad149, A149_0, c149_0, e149, hx149_0, hl149_0, hi149_0⟩ := at_L6 HR0.out x15_1 p149 q149
               cases e149
               replace hx149_0 := (HB.out.cell (World.block_lt_of_cell? w _ hx149_0)).trans hx149_0
               have HR149_0 := Aside0.mk hi149_0
               have HC149_0 := Aside0.mk hl149_0
               clear hi149_0 hl149_0
               replace p149 := eq_true p149
               replace q149 := eq_true q149
               have p150 : 0 ≤ (0 : Int) := (by omega)
               have q150 : 0 < ((rd_L6 l0 x15_1).length : Int) := of_decide_eq_true (by first | (with_reducible assumption) | assumption)
               obtain ⟨ad150, e150, hx150_0⟩ := Kd.at_string HR149_0.out 0 p150 q150
               cases e150
               have qi150 : (0 < (rd_L6 l0 x15_1).length) = True := eq_true (by omega)
               (try rw [show ((0 : Int)).toNat = 0 from rfl] at hx150_0)
               (try rw [Addr.add_zero'] at hx150_0)
               replace hx150_0 := (HB.out.cell (World.block_lt_of_cell? w _ hx150_0)).trans hx150_0
               replace p150 := eq_true p150
               replace q150 := eq_true q150
               go_wp2_with (first | ((with_reducible refine gate_callee (f := 30) rfl ?_); refine gl_ (some 23) rfl rfl Tryz.func30 (by kernel_rfl) rfl #[.string (rdOf ByteArray.empty (rd_L6 l0 x15_1) 0)] rfl ?_; (with_reducible refine (maptext_place.calls (rdOf ByteArray.empty (rd_L6 l0 x15_1) 0) t151 true _ A6.out ?tb4_).mono ?_); (case tb4_ => exact tb_ HTAB HB); rintro e w22 ⟨rfl, hb⟩; refine ⟨_, rfl, ?_⟩; have n0_ := Aside0.mk (Kd.R_below (by (with_reducible repeat (first | apply Kd.R_alloc | apply Kd.R_drewN | apply Kd.R_drew)); exact HO_4.out) hb); have n1_ := bs_ HB hb; clear HO_4; clear HB; have HO_4 := n0_; have HB := n1_; clear n0_ n1_; (try clear hb); have p153 : 0 ≤ (1 : Int) := (by omega); have q153 : 1 < ((rd_L6 l0 x15_1).length : Int) := of_decide_eq_true (by first | (with_reducible assumption) | assumption); obtain ⟨ad153, e153, hx153_0⟩ := Kd.at_string HR149_0.out 1 p153 q153; obtain rfl : ad150 = ad153 := (by injection e153); (try simp only [show (1 : Int).toNat = 1 from rfl, Nat.reduceMul, Nat.reduceEqDiff, Go.Addr.add, ↓reduceIte] at hx153_0); have qi153 : (1 < (rd_L6 l0 x15_1).length) = True := eq_true (by omega); (try rw [show ((1 : Int)).toNat = 1 from rfl] at hx153_0); replace hx153_0 := (HB.out.cell (World.block_lt_of_cell? w _ hx153_0)).trans hx153_0; replace p153 := eq_true p153; replace q153 := eq_true q153) | ((with_reducible refine gate_callee (f := 30) rfl ?_); refine gl_ (some 30) rfl rfl Tryz.func30 (by kernel_rfl) rfl #[.string (rdOf ByteArray.empty (rd_L6 l0 x15_1) 1)] rfl ?_; (with_reducible refine (maptext_place.calls (rdOf ByteArray.empty (rd_L6 l0 x15_1) 1) t154 true _ A8.out ?tb6_).mono ?_); (case tb6_ => exact tb_ HTAB HB); rintro e w23 ⟨rfl, hb⟩; refine ⟨_, rfl, ?_⟩; have n0_ := Aside0.mk (Kd.R_below (by (with_reducible repeat (first | apply Kd.R_alloc | apply Kd.R_drewN | apply Kd.R_drew)); exact HO_4.out) hb); have n1_ := bs_ HB hb; clear HO_4; clear HB; have HO_4 := n0_; have HB := n1_; clear n0_ n1_; (try clear hb); have p156 : 0 ≤ (2 : Int) := (by omega); have q156 : 2 < ((rd_L6 l0 x15_1).length : Int) := of_decide_eq_true (by first | (with_reducible assumption) | assumption); obtain ⟨ad156, e156, hx156_0⟩ := Kd.at_string HR149_0.out 2 p156 q156; obtain rfl : ad150 = ad156 := (by injection e156); (try simp only [show (2 : Int).toNat = 2 from rfl, Nat.reduceMul, Nat.reduceEqDiff, Go.Addr.add, ↓reduceIte] at hx156_0); have qi156 : (2 < (rd_L6 l0 x15_1).length) = True := eq_true (by omega); (try rw [show ((2 : Int)).toNat = 2 from rfl] at hx156_0); replace hx156_0 := (HB.out.cell (World.block_lt_of_cell? w _ hx156_0)).trans hx156_0; replace p156 := eq_true p156; replace q156 := eq_true q156) | ((with_reducible refine gate_callee (f := 31) rfl ?_); refine gl_ (some 37) rfl rfl Tryz.func31 (by kernel_rfl) rfl #[.string (rdOf ByteArray.empty (rd_L6 l0 x15_1) 2)] rfl ?_; (with_reducible refine (maptext_status.calls (rdOf ByteArray.empty (rd_L6 l0 x15_1) 2) t157 true _ A10.out).mono ?_); rintro e w' ⟨rfl, ⟨nd, rfl⟩⟩; refine ⟨_, rfl, ?_⟩; obtain ⟨Ao24, co24, eo24⟩ := Kd.R_slice HO_4.out; subst eo24) | (go_at_call 36; (with_reducible refine (region_End.calls k1 _ _ x4_1 t159 _ ?side1 ?side2 A14.out).mono ?_); (case side1 => repeat (first | exact (Kd.R_reads' HO_4.out).2.2 | (with_reducible refine Kd.C_alloc ?_ _) | (with_reducible refine Kd.C_drewN ?_ _) | (with_reducible refine Kd.C_drew ?_))); (case side2 => exact (Kd.R_reads' HO_4.out).2.1); rintro e w25 ⟨rfl, hb⟩; have n0_ := Aside0.mk (Kd.R_below (by (with_reducible repeat (first | apply Kd.R_alloc | apply Kd.R_drewN | apply Kd.R_drew)); exact HO_4.out) hb); have n1_ := bs_ HB hb; clear HO_4; clear HB; have HO_4 := n0_; have HB := n1_; clear n0_ n1_; (try clear hb)))
               go_ret2
               exact ⟨_, by first | rfl | (simp [errW_none, errW_some] <;> rfl) | (simp [*, errW_none, errW_some] <;> rfl), by first | exact Kd.R_nil _ _ _ _ _ | exact Kd.N_nil _ _ _ _ _ | exact Kd.V_nil _ _ _ _ _ | exact Kd.Q_nil _ _ _ _ _ | exact Kd.S_nil _ _ _ _ _, bh_ HB⟩
              ·rw [if_neg c21] at H
               have c21b0 : decide ((wrap64 (1099511627776 - t151)) < t154) = false := decide_eq_false c21
               clear c21
               replace H := Option.bind_eq_some_iff.mp H
               obtain ⟨t160, A260, H⟩ := H
               replace H : (maptext_regions.l0 k1 t160 l0 (l0.length : Int) (wrap64 (x15_1 + 1))) = some (r1, r2) := H
               have A26 := Aside0.mk A260
               clear A260
               have H' := Aside0.mk H
               clear H
               have p149 : 0 ≤ (x15_1 : Int) := of_decide_eq_true (by first | (with_reducible assumption) | assumption)
               have q149 : x15_1 < (l0.length : Int) := of_decide_eq_true (by first | (with_reducible assumption) | assumption)
               obtain ⟨ad149, A149_0, c149_0, e149, hx149_0, hl149_0, hi149_0⟩ := at_L6 HR0.out x15_1 p149 q149
               cases e149
               replace hx149_0 := (HB.out.cell (World.block_lt_of_cell? w _ hx149_0)).trans hx149_0
               have HR149_0 := Aside0.mk hi149_0
               have HC149_0 := Aside0.mk hl149_0
               clear hi149_0 hl149_0
               replace p149 := eq_true p149
               replace q149 := eq_true q149
               have p150 : 0 ≤ (0 : Int) := (by omega)
               have q150 : 0 < ((rd_L6 l0 x15_1).length : Int) := of_decide_eq_true (by first | (with_reducible assumption) | assumption)
               obtain ⟨ad150, e150, hx150_0⟩ := Kd.at_string HR149_0.out 0 p150 q150
               cases e150
               have qi150 : (0 < (rd_L6 l0 x15_1).length) = True := eq_true (by omega)
               (try rw [show ((0 : Int)).toNat = 0 from rfl] at hx150_0)
               (try rw [Addr.add_zero'] at hx150_0)
               replace hx150_0 := (HB.out.cell (World.block_lt_of_cell? w _ hx150_0)).trans hx150_0
               replace p150 := eq_true p150
               replace q150 := eq_true q150
               go_wp2_with (first | ((with_reducible refine gate_callee (f := 30) rfl ?_); refine gl_ (some 23) rfl rfl Tryz.func30 (by kernel_rfl) rfl #[.string (rdOf ByteArray.empty (rd_L6 l0 x15_1) 0)] rfl ?_; (with_reducible refine (maptext_place.calls (rdOf ByteArray.empty (rd_L6 l0 x15_1) 0) t151 true _ A6.out ?tb8_).mono ?_); (case tb8_ => exact tb_ HTAB HB); rintro e w27 ⟨rfl, hb⟩; refine ⟨_, rfl, ?_⟩; have n0_ := Aside0.mk (Kd.R_below (by (with_reducible repeat (first | apply Kd.R_alloc | apply Kd.R_drewN | apply Kd.R_drew)); exact HO_4.out) hb); have n1_ := bs_ HB hb; clear HO_4; clear HB; have HO_4 := n0_; have HB := n1_; clear n0_ n1_; (try clear hb); have p153 : 0 ≤ (1 : Int) := (by omega); have q153 : 1 < ((rd_L6 l0 x15_1).length : Int) := of_decide_eq_true (by first | (with_reducible assumption) | assumption); obtain ⟨ad153, e153, hx153_0⟩ := Kd.at_string HR149_0.out 1 p153 q153; obtain rfl : ad150 = ad153 := (by injection e153); (try simp only [show (1 : Int).toNat = 1 from rfl, Nat.reduceMul, Nat.reduceEqDiff, Go.Addr.add, ↓reduceIte] at hx153_0); have qi153 : (1 < (rd_L6 l0 x15_1).length) = True := eq_true (by omega); (try rw [show ((1 : Int)).toNat = 1 from rfl] at hx153_0); replace hx153_0 := (HB.out.cell (World.block_lt_of_cell? w _ hx153_0)).trans hx153_0; replace p153 := eq_true p153; replace q153 := eq_true q153) | ((with_reducible refine gate_callee (f := 30) rfl ?_); refine gl_ (some 30) rfl rfl Tryz.func30 (by kernel_rfl) rfl #[.string (rdOf ByteArray.empty (rd_L6 l0 x15_1) 1)] rfl ?_; (with_reducible refine (maptext_place.calls (rdOf ByteArray.empty (rd_L6 l0 x15_1) 1) t154 true _ A8.out ?tb10_).mono ?_); (case tb10_ => exact tb_ HTAB HB); rintro e w28 ⟨rfl, hb⟩; refine ⟨_, rfl, ?_⟩; have n0_ := Aside0.mk (Kd.R_below (by (with_reducible repeat (first | apply Kd.R_alloc | apply Kd.R_drewN | apply Kd.R_drew)); exact HO_4.out) hb); have n1_ := bs_ HB hb; clear HO_4; clear HB; have HO_4 := n0_; have HB := n1_; clear n0_ n1_; (try clear hb); have p156 : 0 ≤ (2 : Int) := (by omega); have q156 : 2 < ((rd_L6 l0 x15_1).length : Int) := of_decide_eq_true (by first | (with_reducible assumption) | assumption); obtain ⟨ad156, e156, hx156_0⟩ := Kd.at_string HR149_0.out 2 p156 q156; obtain rfl : ad150 = ad156 := (by injection e156); (try simp only [show (2 : Int).toNat = 2 from rfl, Nat.reduceMul, Nat.reduceEqDiff, Go.Addr.add, ↓reduceIte] at hx156_0); have qi156 : (2 < (rd_L6 l0 x15_1).length) = True := eq_true (by omega); (try rw [show ((2 : Int)).toNat = 2 from rfl] at hx156_0); replace hx156_0 := (HB.out.cell (World.block_lt_of_cell? w _ hx156_0)).trans hx156_0; replace p156 := eq_true p156; replace q156 := eq_true q156) | ((with_reducible refine gate_callee (f := 31) rfl ?_); refine gl_ (some 37) rfl rfl Tryz.func31 (by kernel_rfl) rfl #[.string (rdOf ByteArray.empty (rd_L6 l0 x15_1) 2)] rfl ?_; (with_reducible refine (maptext_status.calls (rdOf ByteArray.empty (rd_L6 l0 x15_1) 2) t157 true _ A10.out).mono ?_); rintro e w' ⟨rfl, ⟨nd, rfl⟩⟩; refine ⟨_, rfl, ?_⟩; obtain ⟨Ao29, co29, eo29⟩ := Kd.R_slice HO_4.out; subst eo29) | (go_at_call 36; (with_reducible refine (region_End.calls k1 _ _ x4_1 t159 _ ?side1 ?side2 A14.out).mono ?_); (case side1 => repeat (first | exact (Kd.R_reads' HO_4.out).2.2 | (with_reducible refine Kd.C_alloc ?_ _) | (with_reducible refine Kd.C_drewN ?_ _) | (with_reducible refine Kd.C_drew ?_))); (case side2 => exact (Kd.R_reads' HO_4.out).2.1); rintro e w30 ⟨rfl, hb⟩; have n0_ := Aside0.mk (Kd.R_below (by (with_reducible repeat (first | apply Kd.R_alloc | apply Kd.R_drewN | apply Kd.R_drew)); exact HO_4.out) hb); have n1_ := bs_ HB hb; clear HO_4; clear HB; have HO_4 := n0_; have HB := n1_; clear n0_ n1_; (try clear hb)) | ((with_reducible refine gate_callee (f := 62) rfl ?_); refine gl_ (some 69) rfl rfl Tryz.func62 (by kernel_rfl) rfl #[.slice Ao29 x4_1.length co29, .int .i64 t154, .int .u8 t157] rfl ?_; (with_reducible refine (region_Push.calls (fun k_ => some k_ = (.slice Ao29 x4_1.length co29 : Value).ownBlock) (.slice Ao29 x4_1.length co29) x4_1 t154 t157 t160 w _ ?side1 ?side2 A26.out).mono ?_); (case side1 => repeat (first | (with_reducible first | exact HB.out | apply below_alloc | apply pw_below_drewN | apply below_drew1) | exact HB.out)); (case side2 => exact Kd.R_tight rfl HO_4.out); rintro e w31 ⟨v161, rfl, ho0, hb, hkp⟩; refine ⟨_, rfl, ?_⟩; have HO162 := Aside0.mk (Kd.R_mono (ok' := fun k_ => True) ho0 (fun k_ hk_ => trivial)); replace HB := Aside0.mk (hb); clear HO_4; (try clear hb); (try clear hkp); (try clear ho0)))
               go_roundg k1
               case measure => have := HK1.out; omega
               case rel => exact ⟨(t160), (wrap64 (x15_1 + 1)), (by first | rfl | (simp; done) | (simp [*]; done)), H', ⟨by have := HK1.out; omega⟩, ⟨by (with_reducible repeat (first | apply Kd.R_alloc | apply Kd.R_drewN | apply Kd.R_drew)); exact HO162.out⟩, ⟨bh_ HB⟩⟩
            ·rw [if_neg c15] at H
             have c15b0 : (t151 == t159) = false := beq_eq_false_iff_ne.mpr c15
             have c15b1 : (t151 != t159) = true := bne_iff_ne.mpr c15
             simp only [Option.some.injEq, Prod.mk.injEq] at H
             obtain ⟨rfl, rfl⟩ := H
             have p149 : 0 ≤ (x15_1 : Int) := of_decide_eq_true (by first | (with_reducible assumption) | assumption)
             have q149 : x15_1 < (l0.length : Int) := of_decide_eq_true (by first | (with_reducible assumption) | assumption)
             obtain ⟨ad149, A149_0, c149_0, e149, hx149_0, hl149_0, hi149_0⟩ := at_L6 HR0.out x15_1 p149 q149
             cases e149
             replace hx149_0 := (HB.out.cell (World.block_lt_of_cell? w _ hx149_0)).trans hx149_0
             have HR149_0 := Aside0.mk hi149_0
             have HC149_0 := Aside0.mk hl149_0
             clear hi149_0 hl149_0
             replace p149 := eq_true p149
             replace q149 := eq_true q149
             have p150 : 0 ≤ (0 : Int) := (by omega)
             have q150 : 0 < ((rd_L6 l0 x15_1).length : Int) := of_decide_eq_true (by first | (with_reducible assumption) | assumption)
             obtain ⟨ad150, e150, hx150_0⟩ := Kd.at_string HR149_0.out 0 p150 q150
             cases e150
             have qi150 : (0 < (rd_L6 l0 x15_1).length) = True := eq_true (by omega)
             (try rw [show ((0 : Int)).toNat = 0 from rfl] at hx150_0)
             (try rw [Addr.add_zero'] at hx150_0)
             replace hx150_0 := (HB.out.cell (World.block_lt_of_cell? w _ hx150_0)).trans hx150_0
             replace p150 := eq_true p150
             replace q150 := eq_true q150
             go_wp2_with (first | ((with_reducible refine gate_callee (f := 30) rfl ?_); refine gl_ (some 23) rfl rfl Tryz.func30 (by kernel_rfl) rfl #[.string (rdOf ByteArray.empty (rd_L6 l0 x15_1) 0)] rfl ?_; (with_reducible refine (maptext_place.calls (rdOf ByteArray.empty (rd_L6 l0 x15_1) 0) t151 true _ A6.out ?tb12_).mono ?_); (case tb12_ => exact tb_ HTAB HB); rintro e w32 ⟨rfl, hb⟩; refine ⟨_, rfl, ?_⟩; have n0_ := Aside0.mk (Kd.R_below (by (with_reducible repeat (first | apply Kd.R_alloc | apply Kd.R_drewN | apply Kd.R_drew)); exact HO_4.out) hb); have n1_ := bs_ HB hb; clear HO_4; clear HB; have HO_4 := n0_; have HB := n1_; clear n0_ n1_; (try clear hb); have p153 : 0 ≤ (1 : Int) := (by omega); have q153 : 1 < ((rd_L6 l0 x15_1).length : Int) := of_decide_eq_true (by first | (with_reducible assumption) | assumption); obtain ⟨ad153, e153, hx153_0⟩ := Kd.at_string HR149_0.out 1 p153 q153; obtain rfl : ad150 = ad153 := (by injection e153); (try simp only [show (1 : Int).toNat = 1 from rfl, Nat.reduceMul, Nat.reduceEqDiff, Go.Addr.add, ↓reduceIte] at hx153_0); have qi153 : (1 < (rd_L6 l0 x15_1).length) = True := eq_true (by omega); (try rw [show ((1 : Int)).toNat = 1 from rfl] at hx153_0); replace hx153_0 := (HB.out.cell (World.block_lt_of_cell? w _ hx153_0)).trans hx153_0; replace p153 := eq_true p153; replace q153 := eq_true q153) | ((with_reducible refine gate_callee (f := 30) rfl ?_); refine gl_ (some 30) rfl rfl Tryz.func30 (by kernel_rfl) rfl #[.string (rdOf ByteArray.empty (rd_L6 l0 x15_1) 1)] rfl ?_; (with_reducible refine (maptext_place.calls (rdOf ByteArray.empty (rd_L6 l0 x15_1) 1) t154 true _ A8.out ?tb14_).mono ?_); (case tb14_ => exact tb_ HTAB HB); rintro e w33 ⟨rfl, hb⟩; refine ⟨_, rfl, ?_⟩; have n0_ := Aside0.mk (Kd.R_below (by (with_reducible repeat (first | apply Kd.R_alloc | apply Kd.R_drewN | apply Kd.R_drew)); exact HO_4.out) hb); have n1_ := bs_ HB hb; clear HO_4; clear HB; have HO_4 := n0_; have HB := n1_; clear n0_ n1_; (try clear hb); have p156 : 0 ≤ (2 : Int) := (by omega); have q156 : 2 < ((rd_L6 l0 x15_1).length : Int) := of_decide_eq_true (by first | (with_reducible assumption) | assumption); obtain ⟨ad156, e156, hx156_0⟩ := Kd.at_string HR149_0.out 2 p156 q156; obtain rfl : ad150 = ad156 := (by injection e156); (try simp only [show (2 : Int).toNat = 2 from rfl, Nat.reduceMul, Nat.reduceEqDiff, Go.Addr.add, ↓reduceIte] at hx156_0); have qi156 : (2 < (rd_L6 l0 x15_1).length) = True := eq_true (by omega); (try rw [show ((2 : Int)).toNat = 2 from rfl] at hx156_0); replace hx156_0 := (HB.out.cell (World.block_lt_of_cell? w _ hx156_0)).trans hx156_0; replace p156 := eq_true p156; replace q156 := eq_true q156) | ((with_reducible refine gate_callee (f := 31) rfl ?_); refine gl_ (some 37) rfl rfl Tryz.func31 (by kernel_rfl) rfl #[.string (rdOf ByteArray.empty (rd_L6 l0 x15_1) 2)] rfl ?_; (with_reducible refine (maptext_status.calls (rdOf ByteArray.empty (rd_L6 l0 x15_1) 2) t157 true _ A10.out).mono ?_); rintro e w' ⟨rfl, ⟨nd, rfl⟩⟩; refine ⟨_, rfl, ?_⟩; obtain ⟨Ao34, co34, eo34⟩ := Kd.R_slice HO_4.out; subst eo34) | (go_at_call 36; (with_reducible refine (region_End.calls k1 _ _ x4_1 t159 _ ?side1 ?side2 A14.out).mono ?_); (case side1 => repeat (first | exact (Kd.R_reads' HO_4.out).2.2 | (with_reducible refine Kd.C_alloc ?_ _) | (with_reducible refine Kd.C_drewN ?_ _) | (with_reducible refine Kd.C_drew ?_))); (case side2 => exact (Kd.R_reads' HO_4.out).2.1); rintro e w35 ⟨rfl, hb⟩; have n0_ := Aside0.mk (Kd.R_below (by (with_reducible repeat (first | apply Kd.R_alloc | apply Kd.R_drewN | apply Kd.R_drew)); exact HO_4.out) hb); have n1_ := bs_ HB hb; clear HO_4; clear HB; have HO_4 := n0_; have HB := n1_; clear n0_ n1_; (try clear hb)))
             go_ret2
             exact ⟨_, by first | rfl | (simp [errW_none, errW_some] <;> rfl) | (simp [*, errW_none, errW_some] <;> rfl), by first | exact Kd.R_nil _ _ _ _ _ | exact Kd.N_nil _ _ _ _ _ | exact Kd.V_nil _ _ _ _ _ | exact Kd.Q_nil _ _ _ _ _ | exact Kd.S_nil _ _ _ _ _, bh_ HB⟩
           ·replace c13 := Bool.eq_false_iff.mpr c13
            subst c13
            have H1 : (some (([] : List (S23)), false)) = some (r1, r2) := by rw [if_neg (show ¬ (false = true) by decide)] at H; exact H
            clear H
            have H := H1
            clear H1
            simp only [Option.some.injEq, Prod.mk.injEq] at H
            obtain ⟨rfl, rfl⟩ := H
            have p149 : 0 ≤ (x15_1 : Int) := of_decide_eq_true (by first | (with_reducible assumption) | assumption)
            have q149 : x15_1 < (l0.length : Int) := of_decide_eq_true (by first | (with_reducible assumption) | assumption)
            obtain ⟨ad149, A149_0, c149_0, e149, hx149_0, hl149_0, hi149_0⟩ := at_L6 HR0.out x15_1 p149 q149
            cases e149
            replace hx149_0 := (HB.out.cell (World.block_lt_of_cell? w _ hx149_0)).trans hx149_0
            have HR149_0 := Aside0.mk hi149_0
            have HC149_0 := Aside0.mk hl149_0
            clear hi149_0 hl149_0
            replace p149 := eq_true p149
            replace q149 := eq_true q149
            have p150 : 0 ≤ (0 : Int) := (by omega)
            have q150 : 0 < ((rd_L6 l0 x15_1).length : Int) := of_decide_eq_true (by first | (with_reducible assumption) | assumption)
            obtain ⟨ad150, e150, hx150_0⟩ := Kd.at_string HR149_0.out 0 p150 q150
            cases e150
            have qi150 : (0 < (rd_L6 l0 x15_1).length) = True := eq_true (by omega)
            (try rw [show ((0 : Int)).toNat = 0 from rfl] at hx150_0)
            (try rw [Addr.add_zero'] at hx150_0)
            replace hx150_0 := (HB.out.cell (World.block_lt_of_cell? w _ hx150_0)).trans hx150_0
            replace p150 := eq_true p150
            replace q150 := eq_true q150
            go_wp2_with (first | ((with_reducible refine gate_callee (f := 30) rfl ?_); refine gl_ (some 23) rfl rfl Tryz.func30 (by kernel_rfl) rfl #[.string (rdOf ByteArray.empty (rd_L6 l0 x15_1) 0)] rfl ?_; (with_reducible refine (maptext_place.calls (rdOf ByteArray.empty (rd_L6 l0 x15_1) 0) t151 true _ A6.out ?tb16_).mono ?_); (case tb16_ => exact tb_ HTAB HB); rintro e w36 ⟨rfl, hb⟩; refine ⟨_, rfl, ?_⟩; have n0_ := Aside0.mk (Kd.R_below (by (with_reducible repeat (first | apply Kd.R_alloc | apply Kd.R_drewN | apply Kd.R_drew)); exact HO_4.out) hb); have n1_ := bs_ HB hb; clear HO_4; clear HB; have HO_4 := n0_; have HB := n1_; clear n0_ n1_; (try clear hb); have p153 : 0 ≤ (1 : Int) := (by omega); have q153 : 1 < ((rd_L6 l0 x15_1).length : Int) := of_decide_eq_true (by first | (with_reducible assumption) | assumption); obtain ⟨ad153, e153, hx153_0⟩ := Kd.at_string HR149_0.out 1 p153 q153; obtain rfl : ad150 = ad153 := (by injection e153); (try simp only [show (1 : Int).toNat = 1 from rfl, Nat.reduceMul, Nat.reduceEqDiff, Go.Addr.add, ↓reduceIte] at hx153_0); have qi153 : (1 < (rd_L6 l0 x15_1).length) = True := eq_true (by omega); (try rw [show ((1 : Int)).toNat = 1 from rfl] at hx153_0); replace hx153_0 := (HB.out.cell (World.block_lt_of_cell? w _ hx153_0)).trans hx153_0; replace p153 := eq_true p153; replace q153 := eq_true q153) | ((with_reducible refine gate_callee (f := 30) rfl ?_); refine gl_ (some 30) rfl rfl Tryz.func30 (by kernel_rfl) rfl #[.string (rdOf ByteArray.empty (rd_L6 l0 x15_1) 1)] rfl ?_; (with_reducible refine (maptext_place.calls (rdOf ByteArray.empty (rd_L6 l0 x15_1) 1) t154 true _ A8.out ?tb18_).mono ?_); (case tb18_ => exact tb_ HTAB HB); rintro e w37 ⟨rfl, hb⟩; refine ⟨_, rfl, ?_⟩; have n0_ := Aside0.mk (Kd.R_below (by (with_reducible repeat (first | apply Kd.R_alloc | apply Kd.R_drewN | apply Kd.R_drew)); exact HO_4.out) hb); have n1_ := bs_ HB hb; clear HO_4; clear HB; have HO_4 := n0_; have HB := n1_; clear n0_ n1_; (try clear hb); have p156 : 0 ≤ (2 : Int) := (by omega); have q156 : 2 < ((rd_L6 l0 x15_1).length : Int) := of_decide_eq_true (by first | (with_reducible assumption) | assumption); obtain ⟨ad156, e156, hx156_0⟩ := Kd.at_string HR149_0.out 2 p156 q156; obtain rfl : ad150 = ad156 := (by injection e156); (try simp only [show (2 : Int).toNat = 2 from rfl, Nat.reduceMul, Nat.reduceEqDiff, Go.Addr.add, ↓reduceIte] at hx156_0); have qi156 : (2 < (rd_L6 l0 x15_1).length) = True := eq_true (by omega); (try rw [show ((2 : Int)).toNat = 2 from rfl] at hx156_0); replace hx156_0 := (HB.out.cell (World.block_lt_of_cell? w _ hx156_0)).trans hx156_0; replace p156 := eq_true p156; replace q156 := eq_true q156) | ((with_reducible refine gate_callee (f := 31) rfl ?_); refine gl_ (some 37) rfl rfl Tryz.func31 (by kernel_rfl) rfl #[.string (rdOf ByteArray.empty (rd_L6 l0 x15_1) 2)] rfl ?_; (with_reducible refine (maptext_status.calls (rdOf ByteArray.empty (rd_L6 l0 x15_1) 2) t157 false _ A10.out).mono ?_); rintro e w' ⟨rfl, ⟨nd, rfl⟩⟩; refine ⟨_, rfl, ?_⟩))
            go_ret2
            exact ⟨_, by first | rfl | (simp [errW_none, errW_some] <;> rfl) | (simp [*, errW_none, errW_some] <;> rfl), by first | exact Kd.R_nil _ _ _ _ _ | exact Kd.N_nil _ _ _ _ _ | exact Kd.V_nil _ _ _ _ _ | exact Kd.Q_nil _ _ _ _ _ | exact Kd.S_nil _ _ _ _ _, bh_ HB⟩
          ·replace c12 := Bool.eq_false_iff.mpr c12
           subst c12
           have H1 : (some (([] : List (S23)), false)) = some (r1, r2) := by rw [if_neg (show ¬ (false = true) by decide)] at H; exact H
           clear H
           have H := H1
           clear H1
           simp only [Option.some.injEq, Prod.mk.injEq] at H
           obtain ⟨rfl, rfl⟩ := H
           have p149 : 0 ≤ (x15_1 : Int) := of_decide_eq_true (by first | (with_reducible assumption) | assumption)
           have q149 : x15_1 < (l0.length : Int) := of_decide_eq_true (by first | (with_reducible assumption) | assumption)
           obtain ⟨ad149, A149_0, c149_0, e149, hx149_0, hl149_0, hi149_0⟩ := at_L6 HR0.out x15_1 p149 q149
           cases e149
           replace hx149_0 := (HB.out.cell (World.block_lt_of_cell? w _ hx149_0)).trans hx149_0
           have HR149_0 := Aside0.mk hi149_0
           have HC149_0 := Aside0.mk hl149_0
           clear hi149_0 hl149_0
           replace p149 := eq_true p149
           replace q149 := eq_true q149
           have p150 : 0 ≤ (0 : Int) := (by omega)
           have q150 : 0 < ((rd_L6 l0 x15_1).length : Int) := of_decide_eq_true (by first | (with_reducible assumption) | assumption)
           obtain ⟨ad150, e150, hx150_0⟩ := Kd.at_string HR149_0.out 0 p150 q150
           cases e150
           have qi150 : (0 < (rd_L6 l0 x15_1).length) = True := eq_true (by omega)
           (try rw [show ((0 : Int)).toNat = 0 from rfl] at hx150_0)
           (try rw [Addr.add_zero'] at hx150_0)
           replace hx150_0 := (HB.out.cell (World.block_lt_of_cell? w _ hx150_0)).trans hx150_0
           replace p150 := eq_true p150
           replace q150 := eq_true q150
           go_wp2_with (first | ((with_reducible refine gate_callee (f := 30) rfl ?_); refine gl_ (some 23) rfl rfl Tryz.func30 (by kernel_rfl) rfl #[.string (rdOf ByteArray.empty (rd_L6 l0 x15_1) 0)] rfl ?_; (with_reducible refine (maptext_place.calls (rdOf ByteArray.empty (rd_L6 l0 x15_1) 0) t151 true _ A6.out ?tb20_).mono ?_); (case tb20_ => exact tb_ HTAB HB); rintro e w38 ⟨rfl, hb⟩; refine ⟨_, rfl, ?_⟩; have n0_ := Aside0.mk (Kd.R_below (by (with_reducible repeat (first | apply Kd.R_alloc | apply Kd.R_drewN | apply Kd.R_drew)); exact HO_4.out) hb); have n1_ := bs_ HB hb; clear HO_4; clear HB; have HO_4 := n0_; have HB := n1_; clear n0_ n1_; (try clear hb); have p153 : 0 ≤ (1 : Int) := (by omega); have q153 : 1 < ((rd_L6 l0 x15_1).length : Int) := of_decide_eq_true (by first | (with_reducible assumption) | assumption); obtain ⟨ad153, e153, hx153_0⟩ := Kd.at_string HR149_0.out 1 p153 q153; obtain rfl : ad150 = ad153 := (by injection e153); (try simp only [show (1 : Int).toNat = 1 from rfl, Nat.reduceMul, Nat.reduceEqDiff, Go.Addr.add, ↓reduceIte] at hx153_0); have qi153 : (1 < (rd_L6 l0 x15_1).length) = True := eq_true (by omega); (try rw [show ((1 : Int)).toNat = 1 from rfl] at hx153_0); replace hx153_0 := (HB.out.cell (World.block_lt_of_cell? w _ hx153_0)).trans hx153_0; replace p153 := eq_true p153; replace q153 := eq_true q153) | ((with_reducible refine gate_callee (f := 30) rfl ?_); refine gl_ (some 30) rfl rfl Tryz.func30 (by kernel_rfl) rfl #[.string (rdOf ByteArray.empty (rd_L6 l0 x15_1) 1)] rfl ?_; (with_reducible refine (maptext_place.calls (rdOf ByteArray.empty (rd_L6 l0 x15_1) 1) t154 false _ A8.out ?tb22_).mono ?_); (case tb22_ => exact tb_ HTAB HB); rintro e w39 ⟨rfl, hb⟩; refine ⟨_, rfl, ?_⟩; have n0_ := Aside0.mk (Kd.R_below (by (with_reducible repeat (first | apply Kd.R_alloc | apply Kd.R_drewN | apply Kd.R_drew)); exact HO_4.out) hb); have n1_ := bs_ HB hb; clear HO_4; clear HB; have HO_4 := n0_; have HB := n1_; clear n0_ n1_; (try clear hb); have p156 : 0 ≤ (2 : Int) := (by omega); have q156 : 2 < ((rd_L6 l0 x15_1).length : Int) := of_decide_eq_true (by first | (with_reducible assumption) | assumption); obtain ⟨ad156, e156, hx156_0⟩ := Kd.at_string HR149_0.out 2 p156 q156; obtain rfl : ad150 = ad156 := (by injection e156); (try simp only [show (2 : Int).toNat = 2 from rfl, Nat.reduceMul, Nat.reduceEqDiff, Go.Addr.add, ↓reduceIte] at hx156_0); have qi156 : (2 < (rd_L6 l0 x15_1).length) = True := eq_true (by omega); (try rw [show ((2 : Int)).toNat = 2 from rfl] at hx156_0); replace hx156_0 := (HB.out.cell (World.block_lt_of_cell? w _ hx156_0)).trans hx156_0; replace p156 := eq_true p156; replace q156 := eq_true q156) | ((with_reducible refine gate_callee (f := 31) rfl ?_); refine gl_ (some 37) rfl rfl Tryz.func31 (by kernel_rfl) rfl #[.string (rdOf ByteArray.empty (rd_L6 l0 x15_1) 2)] rfl ?_; (with_reducible refine (maptext_status.calls (rdOf ByteArray.empty (rd_L6 l0 x15_1) 2) t157 t158 _ A10.out).mono ?_); rintro e w' ⟨rfl, ⟨nd, rfl⟩⟩; refine ⟨_, rfl, ?_⟩))
           go_ret2
           exact ⟨_, by first | rfl | (simp [errW_none, errW_some] <;> rfl) | (simp [*, errW_none, errW_some] <;> rfl), by first | exact Kd.R_nil _ _ _ _ _ | exact Kd.N_nil _ _ _ _ _ | exact Kd.V_nil _ _ _ _ _ | exact Kd.Q_nil _ _ _ _ _ | exact Kd.S_nil _ _ _ _ _, bh_ HB⟩
         ·replace c11 := Bool.eq_false_iff.mpr c11
          subst c11
          have H1 : (some (([] : List (S23)), false)) = some (r1, r2) := by rw [if_neg (show ¬ (false = true) by decide)] at H; exact H
          clear H
          have H := H1
          clear H1
          simp only [Option.some.injEq, Prod.mk.injEq] at H
          obtain ⟨rfl, rfl⟩ := H
          have p149 : 0 ≤ (x15_1 : Int) := of_decide_eq_true (by first | (with_reducible assumption) | assumption)
          have q149 : x15_1 < (l0.length : Int) := of_decide_eq_true (by first | (with_reducible assumption) | assumption)
          obtain ⟨ad149, A149_0, c149_0, e149, hx149_0, hl149_0, hi149_0⟩ := at_L6 HR0.out x15_1 p149 q149
          cases e149
          replace hx149_0 := (HB.out.cell (World.block_lt_of_cell? w _ hx149_0)).trans hx149_0
          have HR149_0 := Aside0.mk hi149_0
          have HC149_0 := Aside0.mk hl149_0
          clear hi149_0 hl149_0
          replace p149 := eq_true p149
          replace q149 := eq_true q149
          have p150 : 0 ≤ (0 : Int) := (by omega)
          have q150 : 0 < ((rd_L6 l0 x15_1).length : Int) := of_decide_eq_true (by first | (with_reducible assumption) | assumption)
          obtain ⟨ad150, e150, hx150_0⟩ := Kd.at_string HR149_0.out 0 p150 q150
          cases e150
          have qi150 : (0 < (rd_L6 l0 x15_1).length) = True := eq_true (by omega)
          (try rw [show ((0 : Int)).toNat = 0 from rfl] at hx150_0)
          (try rw [Addr.add_zero'] at hx150_0)
          replace hx150_0 := (HB.out.cell (World.block_lt_of_cell? w _ hx150_0)).trans hx150_0
          replace p150 := eq_true p150
          replace q150 := eq_true q150
          go_wp2_with (first | ((with_reducible refine gate_callee (f := 30) rfl ?_); refine gl_ (some 23) rfl rfl Tryz.func30 (by kernel_rfl) rfl #[.string (rdOf ByteArray.empty (rd_L6 l0 x15_1) 0)] rfl ?_; (with_reducible refine (maptext_place.calls (rdOf ByteArray.empty (rd_L6 l0 x15_1) 0) t151 false _ A6.out ?tb24_).mono ?_); (case tb24_ => exact tb_ HTAB HB); rintro e w40 ⟨rfl, hb⟩; refine ⟨_, rfl, ?_⟩; have n0_ := Aside0.mk (Kd.R_below (by (with_reducible repeat (first | apply Kd.R_alloc | apply Kd.R_drewN | apply Kd.R_drew)); exact HO_4.out) hb); have n1_ := bs_ HB hb; clear HO_4; clear HB; have HO_4 := n0_; have HB := n1_; clear n0_ n1_; (try clear hb); have p153 : 0 ≤ (1 : Int) := (by omega); have q153 : 1 < ((rd_L6 l0 x15_1).length : Int) := of_decide_eq_true (by first | (with_reducible assumption) | assumption); obtain ⟨ad153, e153, hx153_0⟩ := Kd.at_string HR149_0.out 1 p153 q153; obtain rfl : ad150 = ad153 := (by injection e153); (try simp only [show (1 : Int).toNat = 1 from rfl, Nat.reduceMul, Nat.reduceEqDiff, Go.Addr.add, ↓reduceIte] at hx153_0); have qi153 : (1 < (rd_L6 l0 x15_1).length) = True := eq_true (by omega); (try rw [show ((1 : Int)).toNat = 1 from rfl] at hx153_0); replace hx153_0 := (HB.out.cell (World.block_lt_of_cell? w _ hx153_0)).trans hx153_0; replace p153 := eq_true p153; replace q153 := eq_true q153) | ((with_reducible refine gate_callee (f := 30) rfl ?_); refine gl_ (some 30) rfl rfl Tryz.func30 (by kernel_rfl) rfl #[.string (rdOf ByteArray.empty (rd_L6 l0 x15_1) 1)] rfl ?_; (with_reducible refine (maptext_place.calls (rdOf ByteArray.empty (rd_L6 l0 x15_1) 1) t154 t155 _ A8.out ?tb26_).mono ?_); (case tb26_ => exact tb_ HTAB HB); rintro e w41 ⟨rfl, hb⟩; refine ⟨_, rfl, ?_⟩; have n0_ := Aside0.mk (Kd.R_below (by (with_reducible repeat (first | apply Kd.R_alloc | apply Kd.R_drewN | apply Kd.R_drew)); exact HO_4.out) hb); have n1_ := bs_ HB hb; clear HO_4; clear HB; have HO_4 := n0_; have HB := n1_; clear n0_ n1_; (try clear hb); have p156 : 0 ≤ (2 : Int) := (by omega); have q156 : 2 < ((rd_L6 l0 x15_1).length : Int) := of_decide_eq_true (by first | (with_reducible assumption) | assumption); obtain ⟨ad156, e156, hx156_0⟩ := Kd.at_string HR149_0.out 2 p156 q156; obtain rfl : ad150 = ad156 := (by injection e156); (try simp only [show (2 : Int).toNat = 2 from rfl, Nat.reduceMul, Nat.reduceEqDiff, Go.Addr.add, ↓reduceIte] at hx156_0); have qi156 : (2 < (rd_L6 l0 x15_1).length) = True := eq_true (by omega); (try rw [show ((2 : Int)).toNat = 2 from rfl] at hx156_0); replace hx156_0 := (HB.out.cell (World.block_lt_of_cell? w _ hx156_0)).trans hx156_0; replace p156 := eq_true p156; replace q156 := eq_true q156) | ((with_reducible refine gate_callee (f := 31) rfl ?_); refine gl_ (some 37) rfl rfl Tryz.func31 (by kernel_rfl) rfl #[.string (rdOf ByteArray.empty (rd_L6 l0 x15_1) 2)] rfl ?_; (with_reducible refine (maptext_status.calls (rdOf ByteArray.empty (rd_L6 l0 x15_1) 2) t157 t158 _ A10.out).mono ?_); rintro e w' ⟨rfl, ⟨nd, rfl⟩⟩; refine ⟨_, rfl, ?_⟩))
          go_ret2
          exact ⟨_, by first | rfl | (simp [errW_none, errW_some] <;> rfl) | (simp [*, errW_none, errW_some] <;> rfl), by first | exact Kd.R_nil _ _ _ _ _ | exact Kd.N_nil _ _ _ _ _ | exact Kd.V_nil _ _ _ _ _ | exact Kd.Q_nil _ _ _ _ _ | exact Kd.S_nil _ _ _ _ _, bh_ HB⟩
        ·rw [if_neg c9] at H
         exact absurd H (by simp)
       ·rw [if_neg c7] at H
        exact absurd H (by simp)
      ·rw [if_neg c5] at H
       exact absurd H (by simp)
     ·rw [if_neg c4] at H
      exact absurd H (by simp)
    ·rw [if_neg c3] at H
     exact absurd H (by simp)
   ·rw [if_neg c2] at H
    have c2b0 : decide (x15_1 < (l0.length : Int)) = false := decide_eq_false c2
    clear c2
    simp only [Option.some.injEq, Prod.mk.injEq] at H
    obtain ⟨rfl, rfl⟩ := H
    go_wp2
    go_ret2
    exact ⟨_, by first | rfl | (simp [errW_none, errW_some] <;> rfl) | (simp [*, errW_none, errW_some] <;> rfl), by (with_reducible repeat (first | apply Kd.R_alloc | apply Kd.R_drewN | apply Kd.R_drew)); exact HO_4.out, bh_ HB⟩

end Go.Proofs.YtlcablcpcbmgeaaGreatDoor.P
