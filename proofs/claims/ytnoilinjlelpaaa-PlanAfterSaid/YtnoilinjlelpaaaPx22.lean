/- Laid by a program of this session's own (wip/wprint.py, over the kit's print.py): functions of the given program as plain Lean functions, and that the program's calls come to their answers. -/
import Derived.Test.YtnoilinjlelpaaaPx0
import Derived.Test.YtnoilinjlelpaaaPx21
namespace Go.Proofs.Ytnoilinjlelpaaa.P
open Go.RowKit Go.Proofs.YtnoilinjlelpaaaW.PrintWords Go.Proofs.YtnoilinjlelpaaaW.PrintLast Go.Proofs.YtnoilinjlelpaaaW.PrintMore
attribute [local go_sem] max2_int min2_int max_two min_two max_three min_three max_four min_four   -- for this text's walks alone
set_option linter.unusedVariables false
set_option linter.unusedSimpArgs false

/-! ### salvorref16_MayRegions: function 59 -/
mutual
def salvorref16_MayRegions.l0 : Nat → List (S33) → Int → Int → Option (Bool)
 | 0, _, _, _ => none
 | k + 1, x0, x3, x4 => if x4 < (x0.length : Int) then (if 0 ≤ x4 then (if ((rd_T33 x0 x4).f0) = x3 then (if ((rd_T33 x0 x4).f1) < 1 then (salvorref16_MayRegions.j1 k x0 x3 x4 true) else (if ((rd_T33 x0 x4).f1) > (wrap64 (1099511627776 - x3)) then (salvorref16_MayRegions.j1 k x0 x3 x4 true) else ((salvorref16_status.f ((rd_T33 x0 x4).f2)).bind fun t324 => (if t324 = true then (if x4 > 0 then (if 0 ≤ (wrap64 (x4 - 1)) then (if (wrap64 (x4 - 1)) < (x0.length : Int) then (salvorref16_MayRegions.j1 k x0 x3 x4 (((rd_T33 x0 (wrap64 (x4 - 1))).f2) == ((rd_T33 x0 x4).f2))) else (none)) else (none)) else (salvorref16_MayRegions.j1 k x0 x3 x4 false)) else (salvorref16_MayRegions.j1 k x0 x3 x4 true))))) else (salvorref16_MayRegions.j1 k x0 x3 x4 true)) else (none)) else (some true)
def salvorref16_MayRegions.j1 : Nat → List (S33) → Int → Int → Bool → Option (Bool)
 | 0, _, _, _, _ => none
 | k + 1, x0, x3, x4, x62 => if x62 = true then (some false) else (if 0 ≤ x4 then (if x4 < (x0.length : Int) then (salvorref16_MayRegions.l0 k x0 (wrap64 (x3 + ((rd_T33 x0 x4).f1))) (wrap64 (x4 + 1))) else (none)) else (none))
end
def salvorref16_MayRegions.f (k : Nat) (l0 : List (S33)) : Option (Bool) := salvorref16_MayRegions.l0 k l0 0 0
theorem salvorref16_MayRegions.mono_l : ∀ k, (∀ y0 y1 y2, LeO (salvorref16_MayRegions.l0 k y0 y1 y2) (salvorref16_MayRegions.l0 (k + 1) y0 y1 y2)) ∧ (∀ y0 y1 y2 y3, LeO (salvorref16_MayRegions.j1 k y0 y1 y2 y3) (salvorref16_MayRegions.j1 (k + 1) y0 y1 y2 y3))
 | 0 => ⟨fun _ _ _ r h => by simp [salvorref16_MayRegions.l0] at h, fun _ _ _ _ r h => by simp [salvorref16_MayRegions.j1] at h⟩
 | k + 1 => by
  obtain ⟨ih0, ih1⟩ := salvorref16_MayRegions.mono_l k
  refine ⟨?_, ?_⟩
  all_goals intros
  all_goals first | unfold salvorref16_MayRegions.l0 | unfold salvorref16_MayRegions.j1
  all_goals repeat' first | (with_reducible exact ih0 _ _ _) | (with_reducible exact ih1 _ _ _ _) | (with_reducible exact LeO.refl _) | (with_reducible exact LeO.none _) | (with_reducible refine LeO.ite ?_ ?_) | (with_reducible refine LeO.bind ?_ (fun _ => ?_)) | exact ih0 _ _ _ | exact ih1 _ _ _ _ | exact LeO.none _ | refine LeO.ite ?_ ?_ | refine LeO.bind ?_ (fun _ => ?_)
theorem salvorref16_MayRegions.mono : ∀ a0 k, LeO (salvorref16_MayRegions.f k a0) (salvorref16_MayRegions.f (k + 1) a0) := by
 intro a0 k
 obtain ⟨ih0, ih1⟩ := salvorref16_MayRegions.mono_l k
 unfold salvorref16_MayRegions.f
 repeat' first
   | (with_reducible exact ih0 _ _ _)
   | (with_reducible exact ih1 _ _ _ _)
   | (with_reducible exact LeO.refl _)
   | (with_reducible exact LeO.none _)
   | (with_reducible refine LeO.ite ?_ ?_)
   | (with_reducible refine LeO.bind ?_ (fun _ => ?_))
   | exact ih0 _ _ _
   | exact ih1 _ _ _ _
   | exact LeO.none _
   | refine LeO.ite ?_ ?_
   | refine LeO.bind ?_ (fun _ => ?_)
set_option maxHeartbeats 8000000 in
set_option maxRecDepth 100000 in
theorem salvorref16_MayRegions.calls (k : Nat) (A0 : Option Addr) (c0 : Nat) (l0 : List (S33)) (r : Bool) (w : World) (hr0 : Kd.C k33 w A0 l0.length l0) (hc0 : l0.length ≤ c0) (h : salvorref16_MayRegions.f k l0 = some r) :
  Calls Try.prog 59 #[.slice A0 l0.length c0] w fun e w' => e = .returned (.bool r) ∧ Below w.heap.size w w' := by
 have HR0 := Aside0.mk hr0; have HC0 := Aside0.mk hc0; clear hr0 hc0
 have HB := Aside0.mk (Below.refl w.heap.size w)
 have H : (salvorref16_MayRegions.l0 k l0 0 0) = some r := h
 clear h
 have H' := Aside0.mk H
 clear H
 go_enter Try.func59, Try.ntmps59
 go_wp2
 go_loopg [3, 4] k (fun kq v3 v4 w' => ∃ (x3_1 : Int) (x4_1 : Int), v3 = .int .i64 x3_1 ∧ v4 = .int .i64 x4_1 ∧ Aside0 (salvorref16_MayRegions.l0 kq l0 x3_1 x4_1 = some r) ∧ Aside0 (kq ≤ k) ∧ Aside0 (Below w.heap.size w w'))
 case atStart => exact ⟨(0), (0), (by first | rfl | (simp; done) | (simp [*]; done)), (by first | rfl | (simp; done) | (simp [*]; done)), H', ⟨Nat.le_refl _⟩, ⟨bh_ HB⟩⟩
 case round =>
  clear H'
  obtain ⟨x3_1, x4_1, rfl, rfl, HA, HK1, HB⟩ := hrel
  cases gk with
  | zero => exact absurd HA.out (by simp [salvorref16_MayRegions.l0])
  | succ k1 =>
   have H := HA.out; clear HA; simp only [salvorref16_MayRegions.l0] at H
   by_cases c2 : x4_1 < (l0.length : Int)
   ·rw [if_pos c2] at H
    have c2b0 : decide (x4_1 < (l0.length : Int)) = true := decide_eq_true c2
    have c2' := Aside0.mk c2
    clear c2; have HC3 := Aside0.mk H; clear H
    go_upto_region 5 with (fail)
    go_cut [62] (fun v62 wc => ∃ (kq : Nat) (x62_2 : Bool), v62 = .bool x62_2 ∧ Aside0 (salvorref16_MayRegions.j1 kq l0 x3_1 x4_1 x62_2 = some r) ∧ Aside0 (kq ≤ k1) ∧ Aside0 (Below w.heap.size w wc))
    case first =>
     have H := HC3.out; clear HC3
     by_cases c4 : 0 ≤ x4_1
     ·rw [if_pos c4] at H
      obtain ⟨ad, e0, hx0, hx1, hx2⟩ := at_T33 HR0.out x4_1 c4 c2'.out
      cases e0
      replace hx0 := (HB.out.cell (World.block_lt_of_cell? w _ hx0)).trans hx0
      replace hx1 := (HB.out.cell (World.block_lt_of_cell? w _ hx1)).trans hx1
      replace hx2 := (HB.out.cell (World.block_lt_of_cell? w _ hx2)).trans hx2
      have p1 := eq_true c4
      have p2 := eq_true c2'.out
      have hD := Aside0.mk (show IntKind.i64.wrap (1099511627776 - x3_1) = wrap64 (1099511627776 - x3_1) from i64_w _)
      have hE := hD.out
      generalize wrap64 (1099511627776 - x3_1) = s at H hE
      by_cases q1 : (rd_T33 l0 x4_1).f0 = x3_1
      ·rw [if_pos q1] at H
       have d1 : ((rd_T33 l0 x4_1).f0 != x3_1) = false := bne_eq_false_iff_eq.mpr q1
       clear q1
       by_cases q2 : (rd_T33 l0 x4_1).f1 < 1
       ·rw [if_pos q2] at H
        have d2 : decide ((rd_T33 l0 x4_1).f1 < 1) = true := decide_eq_true q2
        have H' := Aside0.mk H
        clear H q2
        go_quiet (fail)
        go_wp2; go_meet
        case rel => exact ⟨_, true, rfl, H', ⟨Nat.le_refl _⟩, ⟨bh_ HB⟩⟩
       ·rw [if_neg q2] at H
        have d2 : decide ((rd_T33 l0 x4_1).f1 < 1) = false := decide_eq_false q2
        clear q2
        by_cases q3 : (rd_T33 l0 x4_1).f1 > s
        ·rw [if_pos q3] at H
         have d3 : decide (s < (rd_T33 l0 x4_1).f1) = true := decide_eq_true q3
         have H' := Aside0.mk H
         clear H q3
         go_quiet (fail)
         go_wp2; go_meet
         case rel => exact ⟨_, true, rfl, H', ⟨Nat.le_refl _⟩, ⟨bh_ HB⟩⟩
        ·rw [if_neg q3] at H
         have d3 : decide (s < (rd_T33 l0 x4_1).f1) = false := decide_eq_false q3
         clear q3; obtain ⟨b, hb0, H⟩ := Option.bind_eq_some_iff.mp H; have hb := Aside0.mk hb0; clear hb0
         cases b with
         | false =>
          have H' := Aside0.mk (show salvorref16_MayRegions.j1 k1 l0 x3_1 x4_1 true = some r from H)
          clear H
          go_quiet ((go_at_call 61; exact Calls.quiet_of ((salvorref16_status.calls _ _ _ hb.out).mono fun _ _ h => ⟨h.1, h.2.out⟩)))
          go_wp2; go_meet
          case rel => exact ⟨_, true, rfl, H', ⟨Nat.le_refl _⟩, ⟨bh_ HB⟩⟩
         | true =>
          replace H : (if x4_1 > 0 then (if 0 ≤ (wrap64 (x4_1 - 1)) then (if (wrap64 (x4_1 - 1)) < (l0.length : Int) then (salvorref16_MayRegions.j1 k1 l0 x3_1 x4_1 (((rd_T33 l0 (wrap64 (x4_1 - 1))).f2) == ((rd_T33 l0 x4_1).f2))) else (none)) else (none)) else (salvorref16_MayRegions.j1 k1 l0 x3_1 x4_1 false)) = some r := H
          by_cases q4 : x4_1 > 0
          ·rw [if_pos q4] at H
           have d4 : decide (0 < x4_1) = true := decide_eq_true q4
           clear q4
           have hG := Aside0.mk (show IntKind.i64.wrap (x4_1 - 1) = wrap64 (x4_1 - 1) from i64_w _)
           have hF := hG.out
           generalize wrap64 (x4_1 - 1) = y at H hF
           by_cases q5 : 0 ≤ y
           ·rw [if_pos q5] at H
            by_cases q6 : y < (l0.length : Int)
            ·rw [if_pos q6] at H
             have H' := Aside0.mk H
             clear H; obtain ⟨ad2, e1, hy0, hy1, hy2⟩ := at_T33 HR0.out y q5 q6
             obtain rfl : ad = ad2 := (by injection e1)
             replace hy2 := (HB.out.cell (World.block_lt_of_cell? w _ hy2)).trans hy2
             have p5 := eq_true q5; have p6 := eq_true q6; clear hy0 hy1 q5 q6 e1
             go_quiet ((go_at_call 61; exact Calls.quiet_of ((salvorref16_status.calls _ _ _ hb.out).mono fun _ _ h => ⟨h.1, h.2.out⟩)))
             go_wp2; go_meet
             case rel => exact ⟨_, _, rfl, H', ⟨Nat.le_refl _⟩, ⟨bh_ HB⟩⟩
            ·rw [if_neg q6] at H
             exact absurd H (by simp)
           ·rw [if_neg q5] at H
            exact absurd H (by simp)
          ·rw [if_neg q4] at H
           have d4 : decide (0 < x4_1) = false := decide_eq_false q4
           have H' := Aside0.mk H
           clear H q4
           go_quiet ((go_at_call 61; exact Calls.quiet_of ((salvorref16_status.calls _ _ _ hb.out).mono fun _ _ h => ⟨h.1, h.2.out⟩)))
           go_wp2; go_meet
           case rel => exact ⟨_, false, rfl, H', ⟨Nat.le_refl _⟩, ⟨bh_ HB⟩⟩
      ·rw [if_neg q1] at H
       have d1 : ((rd_T33 l0 x4_1).f0 != x3_1) = true := bne_iff_ne.mpr q1
       have H' := Aside0.mk H
       clear H q1
       go_quiet (fail)
       go_wp2; go_meet
       case rel => exact ⟨_, true, rfl, H', ⟨Nat.le_refl _⟩, ⟨bh_ HB⟩⟩
     ·rw [if_neg c4] at H
      exact absurd H (by simp)
    case rest =>
     clear HC3; (try clear p2); (try clear p3); (try clear q3); (try clear hx3); (try clear c4); (try clear c5); (try clear c5b0); (try clear c5b1); (try clear c6); (try clear hx320_0); (try clear hx320_1); (try clear hx320_2); (try clear p320); (try clear q320); obtain ⟨kq, x62_2, rfl, HA, HJ2, HB⟩ := hcut
     cases kq with
     | zero => exact absurd HA.out (by simp [salvorref16_MayRegions.j1])
     | succ kj2 =>
      have H := HA.out; clear HA; simp only [salvorref16_MayRegions.j1] at H
      by_cases c20 : x62_2 = true
      ·subst c20
       have H1 : (some false) = some r := by rw [if_pos rfl] at H; exact H
       clear H; have H := H1; clear H1
       obtain rfl := Option.some.inj H
       go_wp2
       go_ret
       exact ⟨by first | rfl | (simp [errW_none, errW_some] <;> rfl) | (simp [*, errW_none, errW_some] <;> rfl), bh_ HB⟩
      ·replace c20 := Bool.eq_false_iff.mpr c20
       subst c20
       have H1 : (if 0 ≤ x4_1 then (if x4_1 < (l0.length : Int) then (salvorref16_MayRegions.l0 kj2 l0 (wrap64 (x3_1 + ((rd_T33 l0 x4_1).f1))) (wrap64 (x4_1 + 1))) else (none)) else (none)) = some r := by rw [if_neg (show ¬ (false = true) by decide)] at H; exact H
       clear H; have H := H1; clear H1
       by_cases c21 : 0 ≤ x4_1
       ·rw [if_pos c21] at H
        have c21b0 : decide (0 ≤ x4_1) = true := decide_eq_true c21
        clear c21
        by_cases c22 : x4_1 < (l0.length : Int)
        ·rw [if_pos c22] at H
         have c22b0 : decide (x4_1 < (l0.length : Int)) = true := decide_eq_true c22
         clear c22
         have H' := Aside0.mk H
         clear H
         have p327 : 0 ≤ (x4_1 : Int) := of_decide_eq_true (by first | (with_reducible assumption) | assumption)
         have q327 : x4_1 < (l0.length : Int) := of_decide_eq_true (by first | (with_reducible assumption) | assumption)
         obtain ⟨ad327, e327, hx327_0, hx327_1, hx327_2⟩ := at_T33 HR0.out x4_1 p327 q327; cases e327
         replace hx327_0 := (HB.out.cell (World.block_lt_of_cell? w _ hx327_0)).trans hx327_0
         replace hx327_1 := (HB.out.cell (World.block_lt_of_cell? w _ hx327_1)).trans hx327_1
         replace hx327_2 := (HB.out.cell (World.block_lt_of_cell? w _ hx327_2)).trans hx327_2
         replace p327 := eq_true p327; replace q327 := eq_true q327; go_wp2
         go_roundg kj2
         case measure => have := HK1.out; have := HJ2.out; omega
         case rel => exact ⟨(wrap64 (x3_1 + ((rd_T33 l0 x4_1).f1))), (wrap64 (x4_1 + 1)), (by first | rfl | (simp; done) | (simp [*]; done)), (by first | rfl | (simp; done) | (simp [*]; done)), H', ⟨by have := HK1.out; have := HJ2.out; omega⟩, ⟨bh_ HB⟩⟩
        ·rw [if_neg c22] at H
         exact absurd H (by simp)
       ·rw [if_neg c21] at H
        exact absurd H (by simp)
   ·rw [if_neg c2] at H
    have c2b0 : decide (x4_1 < (l0.length : Int)) = false := decide_eq_false c2
    clear c2
    obtain rfl := Option.some.inj H
    go_wp2
    go_ret
    exact ⟨by first | rfl | (simp [errW_none, errW_some] <;> rfl) | (simp [*, errW_none, errW_some] <;> rfl), bh_ HB⟩

end Go.Proofs.Ytnoilinjlelpaaa.P
