/- Laid by a program of this session's own (wip/wprint.py, over the kit's print.py): functions of the given program as plain Lean functions, and that the program's calls come to their answers. -/
import Derived.Test.YtjgkfnbfjamccaaPx0
import Derived.Test.YtjgkfnbfjamccaaPx13
namespace Go.Proofs.Ytjgkfnbfjamccaa.P
open Go.RowKit Go.Proofs.YtjgkfnbfjamccaaW.PrintWords Go.Proofs.YtjgkfnbfjamccaaW.PrintLast Go.Proofs.YtjgkfnbfjamccaaW.PrintMore
attribute [local go_sem] max2_int min2_int max_two min_two max_three min_three max_four min_four   -- for this text's walks alone
set_option linter.unusedVariables false
set_option linter.unusedSimpArgs false

/-! ### salvorref16_Count: function 20 -/
mutual
def salvorref16_Count.l0 : Nat → List (S26) → List Int → Int → Int → Option (Int)
 | 0, _, _, _, _ => none
 | k + 1, x0, x1, x5, x6 => if x6 < (x0.length : Int) then ((salvorref16_MayRegions.f k x0).bind fun t223 => (salvorref16_Count.j1 k x0 x1 x5 x6 t223)) else (salvorref16_Count.j1 k x0 x1 x5 x6 false)
def salvorref16_Count.j1 : Nat → List (S26) → List Int → Int → Int → Bool → Option (Int)
 | 0, _, _, _, _, _ => none
 | k + 1, x0, x1, x5, x6, x16 => if x16 = true then (salvorref16_Count.l1 k x0 x1 x5 x6 ((x1.length : Int) == 0) 0) else (some x5)
def salvorref16_Count.l1 : Nat → List (S26) → List Int → Int → Int → Bool → Int → Option (Int)
 | 0, _, _, _, _, _, _ => none
 | k + 1, x0, x1, x5, x6, x7, x8 => if x8 < (x1.length : Int) then (if x7 = true then (salvorref16_Count.l1 k x0 x1 x5 x6 true (wrap64 (x8 + 1))) else (if 0 ≤ x8 then (if 0 ≤ x6 then (if x6 < (x0.length : Int) then (salvorref16_Count.l1 k x0 x1 x5 x6 ((rd x1 x8) == ((rd_T26 x0 x6).f2)) (wrap64 (x8 + 1))) else (none)) else (none)) else (none))) else (if x7 = true then (if 0 ≤ x6 then (if x6 < (x0.length : Int) then (salvorref16_Count.l0 k x0 x1 (wrap64 (x5 + ((rd_T26 x0 x6).f1))) (wrap64 (x6 + 1))) else (none)) else (none)) else (salvorref16_Count.l0 k x0 x1 x5 (wrap64 (x6 + 1))))
end
def salvorref16_Count.f (k : Nat) (l0 : List (S26)) (l1 : List Int) : Option (Int) := salvorref16_Count.l0 k l0 l1 0 0
theorem salvorref16_Count.mono_l : ∀ k, (∀ y0 y1 y2 y3, LeO (salvorref16_Count.l0 k y0 y1 y2 y3) (salvorref16_Count.l0 (k + 1) y0 y1 y2 y3)) ∧ (∀ y0 y1 y2 y3 y4, LeO (salvorref16_Count.j1 k y0 y1 y2 y3 y4) (salvorref16_Count.j1 (k + 1) y0 y1 y2 y3 y4)) ∧ (∀ y0 y1 y2 y3 y4 y5, LeO (salvorref16_Count.l1 k y0 y1 y2 y3 y4 y5) (salvorref16_Count.l1 (k + 1) y0 y1 y2 y3 y4 y5))
 | 0 => ⟨fun _ _ _ _ r h => by simp [salvorref16_Count.l0] at h, fun _ _ _ _ _ r h => by simp [salvorref16_Count.j1] at h, fun _ _ _ _ _ _ r h => by simp [salvorref16_Count.l1] at h⟩
 | k + 1 => by
  obtain ⟨ih0, ih1, ih2⟩ := salvorref16_Count.mono_l k
  refine ⟨?_, ?_, ?_⟩
  ·intro y0 y1 y2 y3
   unfold salvorref16_Count.l0
   repeat' first
   | (with_reducible exact ih0 _ _ _ _)
   | (with_reducible exact ih1 _ _ _ _ _)
   | (with_reducible exact ih2 _ _ _ _ _ _)
   | (with_reducible exact salvorref16_MayRegions.mono _ _)
   | (with_reducible exact LeO.refl _)
   | (with_reducible exact LeO.none _)
   | (with_reducible refine LeO.ite ?_ ?_)
   | (with_reducible refine LeO.bind ?_ (fun _ => ?_))
   | exact ih0 _ _ _ _
   | exact ih1 _ _ _ _ _
   | exact ih2 _ _ _ _ _ _
   | exact salvorref16_MayRegions.mono _ _
   | exact LeO.none _
   | refine LeO.ite ?_ ?_
   | refine LeO.bind ?_ (fun _ => ?_)
  ·intro y0 y1 y2 y3 y4
   unfold salvorref16_Count.j1
   repeat' first
   | (with_reducible exact ih0 _ _ _ _)
   | (with_reducible exact ih1 _ _ _ _ _)
   | (with_reducible exact ih2 _ _ _ _ _ _)
   | (with_reducible exact salvorref16_MayRegions.mono _ _)
   | (with_reducible exact LeO.refl _)
   | (with_reducible exact LeO.none _)
   | (with_reducible refine LeO.ite ?_ ?_)
   | (with_reducible refine LeO.bind ?_ (fun _ => ?_))
   | exact ih0 _ _ _ _
   | exact ih1 _ _ _ _ _
   | exact ih2 _ _ _ _ _ _
   | exact salvorref16_MayRegions.mono _ _
   | exact LeO.none _
   | refine LeO.ite ?_ ?_
   | refine LeO.bind ?_ (fun _ => ?_)
  ·intro y0 y1 y2 y3 y4 y5
   unfold salvorref16_Count.l1
   repeat' first
   | (with_reducible exact ih0 _ _ _ _)
   | (with_reducible exact ih1 _ _ _ _ _)
   | (with_reducible exact ih2 _ _ _ _ _ _)
   | (with_reducible exact salvorref16_MayRegions.mono _ _)
   | (with_reducible exact LeO.refl _)
   | (with_reducible exact LeO.none _)
   | (with_reducible refine LeO.ite ?_ ?_)
   | (with_reducible refine LeO.bind ?_ (fun _ => ?_))
   | exact ih0 _ _ _ _
   | exact ih1 _ _ _ _ _
   | exact ih2 _ _ _ _ _ _
   | exact salvorref16_MayRegions.mono _ _
   | exact LeO.none _
   | refine LeO.ite ?_ ?_
   | refine LeO.bind ?_ (fun _ => ?_)
theorem salvorref16_Count.mono : ∀ a0 a1 k, LeO (salvorref16_Count.f k a0 a1) (salvorref16_Count.f (k + 1) a0 a1) := by
 intro a0 a1 k
 obtain ⟨ih0, ih1, ih2⟩ := salvorref16_Count.mono_l k
 unfold salvorref16_Count.f
 repeat' first
   | (with_reducible exact ih0 _ _ _ _)
   | (with_reducible exact ih1 _ _ _ _ _)
   | (with_reducible exact ih2 _ _ _ _ _ _)
   | (with_reducible exact salvorref16_MayRegions.mono _ _)
   | (with_reducible exact LeO.refl _)
   | (with_reducible exact LeO.none _)
   | (with_reducible refine LeO.ite ?_ ?_)
   | (with_reducible refine LeO.bind ?_ (fun _ => ?_))
   | exact ih0 _ _ _ _
   | exact ih1 _ _ _ _ _
   | exact ih2 _ _ _ _ _ _
   | exact salvorref16_MayRegions.mono _ _
   | exact LeO.none _
   | refine LeO.ite ?_ ?_
   | refine LeO.bind ?_ (fun _ => ?_)
set_option maxHeartbeats 8000000 in
set_option maxRecDepth 100000 in
theorem salvorref16_Count.calls (k : Nat) (A0 : Option Addr) (c0 : Nat) (l0 : List (S26)) (A1 : Option Addr) (c1 : Nat) (l1 : List Int) (r : Int) (w : World) (hr0 : Kd.C k26 w A0 l0.length l0) (hc0 : l0.length ≤ c0) (hr1 : Kd.C (Kd.int .u8) w A1 l1.length l1) (hc1 : l1.length ≤ c1) (h : salvorref16_Count.f k l0 l1 = some r) :
  Calls Try.prog 20 #[.slice A0 l0.length c0, .slice A1 l1.length c1] w fun e w' => e = .returned (.int .i64 r) ∧ Below w.heap.size w w' := by
 have HR0 := Aside0.mk hr0
 have HC0 := Aside0.mk hc0
 clear hr0 hc0
 have HR1 := Aside0.mk hr1
 have HC1 := Aside0.mk hc1
 clear hr1 hc1
 have HB := Aside0.mk (Below.refl w.heap.size w)
 have H : (salvorref16_Count.l0 k l0 l1 0 0) = some r := h
 clear h
 have H' := Aside0.mk H
 clear H
 go_enter Try.func20, Try.ntmps20
 go_wp2
 repeat (go_quiet (fail); try go_wp2)
 go_loopg [5, 6] k (fun kq v5 v6 w' => ∃ (x5_1 : Int) (x6_1 : Int), v5 = .int .i64 x5_1 ∧ v6 = .int .i64 x6_1 ∧ Aside0 (salvorref16_Count.l0 kq l0 l1 x5_1 x6_1 = some r) ∧ Aside0 (kq ≤ k) ∧ Aside0 (Below w.heap.size w w'))
 case atStart => exact ⟨(0), (0), (by first | rfl | (simp; done) | (simp [*]; done)), (by first | rfl | (simp; done) | (simp [*]; done)), H', ⟨Nat.le_refl _⟩, ⟨bh_ HB⟩⟩
 case round =>
  clear H'
  try clear c1
  try clear c2
  try clear p2
  obtain ⟨x5_1, x6_1, rfl, rfl, HA, HK1, HB⟩ := hrel
  cases gk with
  | zero => exact absurd HA.out (by simp [salvorref16_Count.l0])
  | succ k1 =>
   have H := HA.out
   clear HA
   simp only [salvorref16_Count.l0] at H
   have HC3 := Aside0.mk H
   clear H
   go_upto_region 3 with (fail)
   repeat (go_quiet (fail); go_upto_region 3 with (fail))
   go_cut [16] (fun v16 wc => ∃ (kq : Nat) (x16_2 : Bool), v16 = .bool x16_2 ∧ Aside0 (salvorref16_Count.j1 kq l0 l1 x5_1 x6_1 x16_2 = some r) ∧ Aside0 (kq ≤ k1) ∧ Aside0 (Below w.heap.size w wc))
   case first =>
    have H := HC3.out
    clear HC3
    by_cases c4 : x6_1 < (l0.length : Int)
    ·rw [if_pos c4] at H
     have c4b0 : decide (x6_1 < (l0.length : Int)) = true := decide_eq_true c4
     clear c4
     (first | rw [c4b0] | (simp only [i64_w, i32_w]; rw [c4b0]) | skip)
     replace H := Option.bind_eq_some_iff.mp H
     obtain ⟨t223, A50, H⟩ := H
     replace H : (salvorref16_Count.j1 k1 l0 l1 x5_1 x6_1 t223) = some r := H
     have A5 := Aside0.mk A50
     clear A50
     have H' := Aside0.mk H
     clear H
     go_wp2_with (first | (go_at_call 27; (with_reducible refine (salvorref16_MayRegions.calls k1 _ _ l0 t223 _ ?side1 ?side2 A5.out).mono ?_); (case side1 => exact cb_ HR0 HB); (case side2 => exact HC0.out); rintro e w6 ⟨rfl, hb⟩; replace HB := bs_ HB hb; (try clear hb)))
     repeat (go_quiet (first | (go_at_call 27; (with_reducible refine (salvorref16_MayRegions.calls k1 _ _ l0 t223 _ ?side1 ?side2 A5.out).mono ?_); (case side1 => exact cb_ HR0 HB); (case side2 => exact HC0.out); rintro e w6 ⟨rfl, hb⟩; replace HB := bs_ HB hb; (try clear hb))); try go_wp2_with (first | (go_at_call 27; (with_reducible refine (salvorref16_MayRegions.calls k1 _ _ l0 t223 _ ?side1 ?side2 A5.out).mono ?_); (case side1 => exact cb_ HR0 HB); (case side2 => exact HC0.out); rintro e w6 ⟨rfl, hb⟩; replace HB := bs_ HB hb; (try clear hb))))
     go_meet
     case rel => exact ⟨_, (t223), (by first | rfl | (simp; done) | (simp [*]; done)), H', ⟨by have := HK1.out; first | omega | exact Nat.le_refl _⟩, ⟨bh_ HB⟩⟩
    ·rw [if_neg c4] at H
     have c4b0 : decide (x6_1 < (l0.length : Int)) = false := decide_eq_false c4
     clear c4
     (first | rw [c4b0] | (simp only [i64_w, i32_w]; rw [c4b0]) | skip)
     have H' := Aside0.mk H
     clear H
     go_wp2
     repeat (go_quiet (fail); try go_wp2)
     go_meet
     case rel => exact ⟨_, (false), (by first | rfl | (simp; done) | (simp [*]; done)), H', ⟨by have := HK1.out; first | omega | exact Nat.le_refl _⟩, ⟨bh_ HB⟩⟩
   case rest =>
    clear HC3
    try clear c1
    try clear c2
    try clear p2
    try clear c4
    try clear c4b0
    try clear p2
    obtain ⟨kq, x16_2, rfl, HA, HJ2, HB⟩ := hcut
    cases kq with
    | zero => exact absurd HA.out (by simp [salvorref16_Count.j1])
    | succ kj2 =>
     have H := HA.out
     clear HA
     simp only [salvorref16_Count.j1] at H
     by_cases c7 : x16_2 = true
     ·subst c7
      have H1 : (salvorref16_Count.l1 kj2 l0 l1 x5_1 x6_1 ((l1.length : Int) == 0) 0) = some r := by rw [if_pos rfl] at H; exact H
      clear H
      have H := H1
      clear H1
      have H' := Aside0.mk H
      clear H
      go_wp2
      repeat (go_quiet (fail); try go_wp2)
      go_loopg [7, 8] kj2 (fun kq v7 v8 w' => ∃ (x7_3 : Bool) (x8_3 : Int), v7 = .bool x7_3 ∧ v8 = .int .i64 x8_3 ∧ Aside0 (salvorref16_Count.l1 kq l0 l1 x5_1 x6_1 x7_3 x8_3 = some r) ∧ Aside0 (kq ≤ kj2) ∧ Aside0 (Below w.heap.size w w'))
      case atStart => exact ⟨(((l1.length : Int) == 0)), (0), (by first | rfl | (simp; done) | (simp [*]; done)), (by first | rfl | (simp; done) | (simp [*]; done)), H', ⟨Nat.le_refl _⟩, ⟨bh_ HB⟩⟩
      case round =>
       clear H'
       try clear c1
       try clear c2
       try clear p2
       try clear c4
       try clear c4b0
       try clear c7
       try clear p2
       obtain ⟨x7_3, x8_3, rfl, rfl, HA, HK3, HB⟩ := hrel
       cases gk with
       | zero => exact absurd HA.out (by simp [salvorref16_Count.l1])
       | succ k3 =>
        have H := HA.out
        clear HA
        simp only [salvorref16_Count.l1] at H
        by_cases c8 : x8_3 < (l1.length : Int)
        ·rw [if_pos c8] at H
         have c8b0 : decide (x8_3 < (l1.length : Int)) = true := decide_eq_true c8
         clear c8
         by_cases c9 : x7_3 = true
         ·subst c9
          have H1 : (salvorref16_Count.l1 k3 l0 l1 x5_1 x6_1 true (wrap64 (x8_3 + 1))) = some r := by rw [if_pos rfl] at H; exact H
          clear H
          have H := H1
          clear H1
          have H' := Aside0.mk H
          clear H
          go_wp2
          repeat (go_quiet (fail); try go_wp2)
          go_roundg k3
          case measure => have := HK1.out; have := HJ2.out; have := HK3.out; omega
          case rel => exact ⟨(true), (wrap64 (x8_3 + 1)), (by first | rfl | (simp; done) | (simp [*]; done)), (by first | rfl | (simp; done) | (simp [*]; done)), H', ⟨by have := HK1.out; have := HJ2.out; have := HK3.out; omega⟩, ⟨bh_ HB⟩⟩
         ·replace c9 := Bool.eq_false_iff.mpr c9
          subst c9
          have H1 : (if 0 ≤ x8_3 then (if 0 ≤ x6_1 then (if x6_1 < (l0.length : Int) then (salvorref16_Count.l1 k3 l0 l1 x5_1 x6_1 ((rd l1 x8_3) == ((rd_T26 l0 x6_1).f2)) (wrap64 (x8_3 + 1))) else (none)) else (none)) else (none)) = some r := by rw [if_neg (show ¬ (false = true) by decide)] at H; exact H
          clear H
          have H := H1
          clear H1
          by_cases c10 : 0 ≤ x8_3
          ·rw [if_pos c10] at H
           have c10b0 : decide (0 ≤ x8_3) = true := decide_eq_true c10
           clear c10
           by_cases c11 : 0 ≤ x6_1
           ·rw [if_pos c11] at H
            have c11b0 : decide (0 ≤ x6_1) = true := decide_eq_true c11
            clear c11
            by_cases c12 : x6_1 < (l0.length : Int)
            ·rw [if_pos c12] at H
             have c12b0 : decide (x6_1 < (l0.length : Int)) = true := decide_eq_true c12
             clear c12
             have H' := Aside0.mk H
             clear H
             have p224 : 0 ≤ (x8_3 : Int) := of_decide_eq_true (by first | (with_reducible assumption) | assumption)
             have q224 : x8_3 < (l1.length : Int) := of_decide_eq_true (by first | (with_reducible assumption) | assumption)
             obtain ⟨ad224, e224, hx224_0⟩ := Kd.at_int HR1.out x8_3 p224 q224
             cases e224
             replace hx224_0 := (HB.out.cell (World.block_lt_of_cell? w _ hx224_0)).trans hx224_0
             replace p224 := eq_true p224
             replace q224 := eq_true q224
             have p225 : 0 ≤ (x6_1 : Int) := of_decide_eq_true (by first | (with_reducible assumption) | assumption)
             have q225 : x6_1 < (l0.length : Int) := of_decide_eq_true (by first | (with_reducible assumption) | assumption)
             obtain ⟨ad225, e225, hx225_0, hx225_1, hx225_2⟩ := at_T26 HR0.out x6_1 p225 q225
             cases e225
             replace hx225_0 := (HB.out.cell (World.block_lt_of_cell? w _ hx225_0)).trans hx225_0
             replace hx225_1 := (HB.out.cell (World.block_lt_of_cell? w _ hx225_1)).trans hx225_1
             replace hx225_2 := (HB.out.cell (World.block_lt_of_cell? w _ hx225_2)).trans hx225_2
             replace p225 := eq_true p225
             replace q225 := eq_true q225
             go_wp2
             repeat (go_quiet (fail); try go_wp2)
             go_roundg k3
             case measure => have := HK1.out; have := HJ2.out; have := HK3.out; omega
             case rel => exact ⟨(((rd l1 x8_3) == ((rd_T26 l0 x6_1).f2))), (wrap64 (x8_3 + 1)), (by first | rfl | (simp; done) | (simp [*]; done)), (by first | rfl | (simp; done) | (simp [*]; done)), H', ⟨by have := HK1.out; have := HJ2.out; have := HK3.out; omega⟩, ⟨bh_ HB⟩⟩
            ·rw [if_neg c12] at H
             exact absurd H (by simp)
           ·rw [if_neg c11] at H
            exact absurd H (by simp)
          ·rw [if_neg c10] at H
           exact absurd H (by simp)
        ·rw [if_neg c8] at H
         have c8b0 : decide (x8_3 < (l1.length : Int)) = false := decide_eq_false c8
         clear c8
         by_cases c13 : x7_3 = true
         ·subst c13
          have H1 : (if 0 ≤ x6_1 then (if x6_1 < (l0.length : Int) then (salvorref16_Count.l0 k3 l0 l1 (wrap64 (x5_1 + ((rd_T26 l0 x6_1).f1))) (wrap64 (x6_1 + 1))) else (none)) else (none)) = some r := by rw [if_pos rfl] at H; exact H
          clear H
          have H := H1
          clear H1
          by_cases c14 : 0 ≤ x6_1
          ·rw [if_pos c14] at H
           have c14b0 : decide (0 ≤ x6_1) = true := decide_eq_true c14
           clear c14
           by_cases c15 : x6_1 < (l0.length : Int)
           ·rw [if_pos c15] at H
            have c15b0 : decide (x6_1 < (l0.length : Int)) = true := decide_eq_true c15
            clear c15
            have H' := Aside0.mk H
            clear H
            have p226 : 0 ≤ (x6_1 : Int) := of_decide_eq_true (by first | (with_reducible assumption) | assumption)
            have q226 : x6_1 < (l0.length : Int) := of_decide_eq_true (by first | (with_reducible assumption) | assumption)
            obtain ⟨ad226, e226, hx226_0, hx226_1, hx226_2⟩ := at_T26 HR0.out x6_1 p226 q226
            cases e226
            replace hx226_0 := (HB.out.cell (World.block_lt_of_cell? w _ hx226_0)).trans hx226_0
            replace hx226_1 := (HB.out.cell (World.block_lt_of_cell? w _ hx226_1)).trans hx226_1
            replace hx226_2 := (HB.out.cell (World.block_lt_of_cell? w _ hx226_2)).trans hx226_2
            replace p226 := eq_true p226
            replace q226 := eq_true q226
            go_wp2
            repeat (go_quiet (fail); try go_wp2)
            go_roundg k3
            case measure => have := HK1.out; have := HJ2.out; have := HK3.out; omega
            case rel => exact ⟨(wrap64 (x5_1 + ((rd_T26 l0 x6_1).f1))), (wrap64 (x6_1 + 1)), (by first | rfl | (simp; done) | (simp [*]; done)), (by first | rfl | (simp; done) | (simp [*]; done)), H', ⟨by have := HK1.out; have := HJ2.out; have := HK3.out; omega⟩, ⟨bh_ HB⟩⟩
           ·rw [if_neg c15] at H
            exact absurd H (by simp)
          ·rw [if_neg c14] at H
           exact absurd H (by simp)
         ·replace c13 := Bool.eq_false_iff.mpr c13
          subst c13
          have H1 : (salvorref16_Count.l0 k3 l0 l1 x5_1 (wrap64 (x6_1 + 1))) = some r := by rw [if_neg (show ¬ (false = true) by decide)] at H; exact H
          clear H
          have H := H1
          clear H1
          have H' := Aside0.mk H
          clear H
          go_wp2
          repeat (go_quiet (fail); try go_wp2)
          go_roundg k3
          case measure => have := HK1.out; have := HJ2.out; have := HK3.out; omega
          case rel => exact ⟨(x5_1), (wrap64 (x6_1 + 1)), (by first | rfl | (simp; done) | (simp [*]; done)), (by first | rfl | (simp; done) | (simp [*]; done)), H', ⟨by have := HK1.out; have := HJ2.out; have := HK3.out; omega⟩, ⟨bh_ HB⟩⟩
     ·replace c7 := Bool.eq_false_iff.mpr c7
      subst c7
      have H1 : (some x5_1) = some r := by rw [if_neg (show ¬ (false = true) by decide)] at H; exact H
      clear H
      have H := H1
      clear H1
      obtain rfl := Option.some.inj H
      go_wp2
      repeat (go_quiet (fail); try go_wp2)
      go_ret
      exact ⟨by first | rfl | (simp [errW_none, errW_some] <;> rfl) | (simp [*, errW_none, errW_some] <;> rfl), bh_ HB⟩

end Go.Proofs.Ytjgkfnbfjamccaa.P
