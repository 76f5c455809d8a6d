/- Laid by a program of this session's own (wip/wprint.py, over the kit's print.py): functions of the given program as plain Lean functions, and that the program's calls come to their answers. -/
import Derived.Test.YtalcenfcknmchaaDoorPx0
import Derived.Test.YtalcenfcknmchaaDoorPx2
import Derived.Test.YtalcenfcknmchaaDoorPx8
import Derived.Test.YtalcenfcknmchaaDoorPx12
namespace Go.Proofs.YtalcenfcknmchaaDoor.P
open Go.RowKit Go.Proofs.YtalcenfcknmchaaDoorW.PrintWords Go.Proofs.YtalcenfcknmchaaDoorW.PrintLast Go.Proofs.YtalcenfcknmchaaDoorW.PrintMore
attribute [local go_sem] max2_int min2_int max_two min_two max_three min_three max_four min_four   -- for this text's walks alone
set_option linter.unusedVariables false
set_option linter.unusedSimpArgs false

/-! ### salvorlaw2_NumFactors: function 4 -/
mutual
def salvorlaw2_NumFactors.j0 : Nat → List Int → List Int → Bool → Option (Bool)
 | 0, _, _, _ => none
 | k + 1, x0, x1, x29 => if x29 = true then ((salvorlaw2_NumRuns.f k).bind fun t143 => (some t143)) else ((salvorlaw2_suffixes.f).bind fun bt144 => (salvorlaw2_NumFactors.l0 k x0 x1 bt144.1 bt144.2 (⟨#[]⟩ : ByteArray) ([] : List Int) 0))
def salvorlaw2_NumFactors.l0 : Nat → List Int → List Int → List ByteArray → List Int → ByteArray → List Int → Int → Option (Bool)
 | 0, _, _, _, _, _, _, _ => none
 | k + 1, x0, x1, x5, x6, x7, x8, x9 => if x9 < (x0.length : Int) then (if 0 ≤ x9 then (if x9 < (x1.length : Int) then (if (x5.length : Int) = 0 then (none) else (if x9 > 0 then (if x7.size + 1 ≤ 9223372036854775807 then ((num_Dec.f (wrap64 (rd x0 x9))).bind fun t152 => (if (x7 ++ (⟨#[120]⟩ : ByteArray)).size + t152.size ≤ 9223372036854775807 then (if 0 ≤ (Int.tmod (wrap64 (rd x1 x9)) (x5.length : Int)) then (if (Int.tmod (wrap64 (rd x1 x9)) (x5.length : Int)) < (x5.length : Int) then (if ((x7 ++ (⟨#[120]⟩ : ByteArray)) ++ t152).size + (rdOf ByteArray.empty x5 (Int.tmod (wrap64 (rd x1 x9)) (x5.length : Int))).size ≤ 9223372036854775807 then (if (Int.tmod (wrap64 (rd x1 x9)) (x5.length : Int)) < (x6.length : Int) then ((some (([wrap64 (rd x0 x9), rd x6 (Int.tmod (wrap64 (rd x1 x9)) (x5.length : Int))] : List Int) : List Int)).bind fun y156 => (if x8.length + y156.length < 17592186044416 then (salvorlaw2_NumFactors.l0 k x0 x1 x5 x6 (((x7 ++ (⟨#[120]⟩ : ByteArray)) ++ t152) ++ (rdOf ByteArray.empty x5 (Int.tmod (wrap64 (rd x1 x9)) (x5.length : Int)))) (x8 ++ y156) (wrap64 (x9 + 1))) else (none))) else (none)) else (none)) else (none)) else (none)) else (none))) else (none)) else ((num_Dec.f (wrap64 (rd x0 x9))).bind fun t163 => (if x7.size + t163.size ≤ 9223372036854775807 then (if 0 ≤ (Int.tmod (wrap64 (rd x1 x9)) (x5.length : Int)) then (if (Int.tmod (wrap64 (rd x1 x9)) (x5.length : Int)) < (x5.length : Int) then (if (x7 ++ t163).size + (rdOf ByteArray.empty x5 (Int.tmod (wrap64 (rd x1 x9)) (x5.length : Int))).size ≤ 9223372036854775807 then (if (Int.tmod (wrap64 (rd x1 x9)) (x5.length : Int)) < (x6.length : Int) then ((some (([wrap64 (rd x0 x9), rd x6 (Int.tmod (wrap64 (rd x1 x9)) (x5.length : Int))] : List Int) : List Int)).bind fun y167 => (if x8.length + y167.length < 17592186044416 then (salvorlaw2_NumFactors.l0 k x0 x1 x5 x6 ((x7 ++ t163) ++ (rdOf ByteArray.empty x5 (Int.tmod (wrap64 (rd x1 x9)) (x5.length : Int)))) (x8 ++ y167) (wrap64 (x9 + 1))) else (none))) else (none)) else (none)) else (none)) else (none)) else (none))))) else (none)) else (none)) else ((num_Get.f k x7).bind fun bt173 => ((off_Mul.f k x8).bind fun bt175 => (if bt173.1 = bt175.1 then (if (bt173.2 == bt175.2) = true then ((salvorlaw2_NumRuns.f k).bind fun t177 => (some t177)) else (some false)) else (some false))))
end
def salvorlaw2_NumFactors.f (k : Nat) (l0 : List Int) (l1 : List Int) : Option (Bool) := if (l0.length : Int) < 1 then (salvorlaw2_NumFactors.j0 k l0 l1 true) else (if (l0.length : Int) > 12 then (salvorlaw2_NumFactors.j0 k l0 l1 true) else (salvorlaw2_NumFactors.j0 k l0 l1 (decide ((l1.length : Int) < (l0.length : Int)))))
theorem salvorlaw2_NumFactors.mono_l : ∀ k, (∀ y0 y1 y2, LeO (salvorlaw2_NumFactors.j0 k y0 y1 y2) (salvorlaw2_NumFactors.j0 (k + 1) y0 y1 y2)) ∧ (∀ y0 y1 y2 y3 y4 y5 y6, LeO (salvorlaw2_NumFactors.l0 k y0 y1 y2 y3 y4 y5 y6) (salvorlaw2_NumFactors.l0 (k + 1) y0 y1 y2 y3 y4 y5 y6))
 | 0 => ⟨fun _ _ _ r h => by simp [salvorlaw2_NumFactors.j0] at h, fun _ _ _ _ _ _ _ r h => by simp [salvorlaw2_NumFactors.l0] at h⟩
 | k + 1 => by
  obtain ⟨ih0, ih1⟩ := salvorlaw2_NumFactors.mono_l k
  refine ⟨?_, ?_⟩
  ·intro y0 y1 y2
   unfold salvorlaw2_NumFactors.j0
   repeat' first
   | (with_reducible exact ih0 _ _ _)
   | (with_reducible exact ih1 _ _ _ _ _ _ _)
   | (with_reducible exact num_Get.mono _ _)
   | (with_reducible exact off_Mul.mono _ _)
   | (with_reducible exact salvorlaw2_NumRuns.mono _)
   | (with_reducible exact LeO.refl _)
   | (with_reducible exact LeO.none _)
   | (with_reducible refine LeO.ite ?_ ?_)
   | (with_reducible refine LeO.bind ?_ (fun _ => ?_))
   | exact ih0 _ _ _
   | exact ih1 _ _ _ _ _ _ _
   | exact num_Get.mono _ _
   | exact off_Mul.mono _ _
   | exact salvorlaw2_NumRuns.mono _
   | exact LeO.none _
   | refine LeO.ite ?_ ?_
   | refine LeO.bind ?_ (fun _ => ?_)
  ·intro y0 y1 y2 y3 y4 y5 y6
   unfold salvorlaw2_NumFactors.l0
   repeat' first
   | (with_reducible exact ih0 _ _ _)
   | (with_reducible exact ih1 _ _ _ _ _ _ _)
   | (with_reducible exact num_Get.mono _ _)
   | (with_reducible exact off_Mul.mono _ _)
   | (with_reducible exact salvorlaw2_NumRuns.mono _)
   | (with_reducible exact LeO.refl _)
   | (with_reducible exact LeO.none _)
   | (with_reducible refine LeO.ite ?_ ?_)
   | (with_reducible refine LeO.bind ?_ (fun _ => ?_))
   | exact ih0 _ _ _
   | exact ih1 _ _ _ _ _ _ _
   | exact num_Get.mono _ _
   | exact off_Mul.mono _ _
   | exact salvorlaw2_NumRuns.mono _
   | exact LeO.none _
   | refine LeO.ite ?_ ?_
   | refine LeO.bind ?_ (fun _ => ?_)
theorem salvorlaw2_NumFactors.mono : ∀ a0 a1 k, LeO (salvorlaw2_NumFactors.f k a0 a1) (salvorlaw2_NumFactors.f (k + 1) a0 a1) := by
 intro a0 a1 k
 obtain ⟨ih0, ih1⟩ := salvorlaw2_NumFactors.mono_l k
 unfold salvorlaw2_NumFactors.f
 repeat' first
   | (with_reducible exact ih0 _ _ _)
   | (with_reducible exact ih1 _ _ _ _ _ _ _)
   | (with_reducible exact num_Get.mono _ _)
   | (with_reducible exact off_Mul.mono _ _)
   | (with_reducible exact salvorlaw2_NumRuns.mono _)
   | (with_reducible exact LeO.refl _)
   | (with_reducible exact LeO.none _)
   | (with_reducible refine LeO.ite ?_ ?_)
   | (with_reducible refine LeO.bind ?_ (fun _ => ?_))
   | exact ih0 _ _ _
   | exact ih1 _ _ _ _ _ _ _
   | exact num_Get.mono _ _
   | exact off_Mul.mono _ _
   | exact salvorlaw2_NumRuns.mono _
   | exact LeO.none _
   | refine LeO.ite ?_ ?_
   | refine LeO.bind ?_ (fun _ => ?_)
def salvorlaw2_NumFactors.T12 : Bool × List (List Nat × List Nat) := (true, [([], []), ([], []), ([], []), ([1, 2], [1, 2]), ([3], [3]), ([4], [4]), ([5], [5]), ([0, 6], [0, 6]), ([], []), ([], []), ([8, 9], [8, 9]), ([10], [10]), ([7, 11], [7, 11]), ([12, 6, 0, 1, 2, 3, 4, 5, 6, 7, 8, 9, 10, 11, 12], [0, 12])])
def salvorlaw2_NumFactors.B12 : List Nat := [0, 0, 0, 6, 14, 30, 62, 127, 0, 0, 768, 1792, 4095, 8191]
theorem salvorlaw2_NumFactors.tab12 : rtab .any (opsOf Tryd.f4 12) = salvorlaw2_NumFactors.T12 := by kernel_rfl
theorem salvorlaw2_NumFactors.bits12 : waitsOk salvorlaw2_NumFactors.T12.2 salvorlaw2_NumFactors.B12 = true := by kernel_rfl
def salvorlaw2_NumFactors.T13 : Bool × List (List Nat × List Nat) := (true, [([], []), ([], []), ([], []), ([1, 2], [1, 2]), ([3], [3]), ([4], [4]), ([], []), ([], []), ([6, 7], [6, 7]), ([8], [8]), ([5, 9], [5, 9]), ([0, 10], [0, 10]), ([11, 11, 0, 1, 2, 3, 4, 5, 6, 7, 8, 9, 10, 11], [0, 11])])
def salvorlaw2_NumFactors.B13 : List Nat := [0, 0, 0, 6, 14, 30, 0, 0, 192, 448, 1022, 2047, 4095]
theorem salvorlaw2_NumFactors.tab13 : rtab .any (opsOf Tryd.f4 13) = salvorlaw2_NumFactors.T13 := by kernel_rfl
theorem salvorlaw2_NumFactors.bits13 : waitsOk salvorlaw2_NumFactors.T13.2 salvorlaw2_NumFactors.B13 = true := by kernel_rfl
set_option maxHeartbeats 8000000 in
set_option maxRecDepth 100000 in
theorem salvorlaw2_NumFactors.calls (k : Nat) (A0 : Option Addr) (c0 : Nat) (l0 : List Int) (A1 : Option Addr) (c1 : Nat) (l1 : List Int) (r : Bool) (w : World) (hr0 : Kd.C (Kd.int .u16) w A0 l0.length l0) (hc0 : l0.length ≤ c0) (hr1 : Kd.C (Kd.int .u8) w A1 l1.length l1) (hc1 : l1.length ≤ c1) (h : salvorlaw2_NumFactors.f k l0 l1 = some r) (htab : TabAt w) (hrt : r = true) :
  Calls Tryd.prog 4 #[.slice A0 l0.length c0, .slice A1 l1.length c1] w fun e w' => e = .returned (.bool r) ∧ Below w.heap.size w w' := by
 have HT := Aside0.mk hrt
 clear hrt
 have HTAB := Aside0.mk htab
 clear htab
 have HR0 := Aside0.mk hr0
 have HC0 := Aside0.mk hc0
 clear hr0 hc0
 have HR1 := Aside0.mk hr1
 have HC1 := Aside0.mk hc1
 clear hr1 hc1
 have HB := Aside0.mk (Below.refl w.heap.size w)
 have H : (if (l0.length : Int) < 1 then (salvorlaw2_NumFactors.j0 k l0 l1 true) else (if (l0.length : Int) > 12 then (salvorlaw2_NumFactors.j0 k l0 l1 true) else (salvorlaw2_NumFactors.j0 k l0 l1 (decide ((l1.length : Int) < (l0.length : Int)))))) = some r := h
 clear h
 have HC3 := Aside0.mk H
 clear H
 go_enter Tryd.func4, Tryd.ntmps4
 go_upto_region 1 with (fail)
 go_cut [29] (fun v29 wc => ∃ (kq : Nat) (x29_2 : Bool), v29 = .bool x29_2 ∧ Aside0 (salvorlaw2_NumFactors.j0 kq l0 l1 x29_2 = some r) ∧ Aside0 (kq ≤ k) ∧ Aside0 (Below w.heap.size w wc))
 case first =>
  have H := HC3.out
  clear HC3
  by_cases c4 : (l0.length : Int) < 1
  ·rw [if_pos c4] at H
   have c4b0 : decide ((l0.length : Int) < 1) = true := decide_eq_true c4
   have c4b1 : decide (l0.length < 1) = true := decide_eq_true (by omega)
   clear c4
   (first | rw [c4b0] | (simp only [i64_w, i32_w]; rw [c4b0]) | skip)
   have H' := Aside0.mk H
   clear H
   go_wp2
   go_meet
   case rel => exact ⟨_, (true), (by first | rfl | (simp; done) | (simp [*]; done)), H', ⟨by first | omega | exact Nat.le_refl _⟩, ⟨bh_ HB⟩⟩
  ·rw [if_neg c4] at H
   have c4b0 : decide ((l0.length : Int) < 1) = false := decide_eq_false c4
   have c4b1 : decide (l0.length < 1) = false := decide_eq_false (by omega)
   clear c4
   (first | rw [c4b0] | (simp only [i64_w, i32_w]; rw [c4b0]) | skip)
   by_cases c5 : (l0.length : Int) > 12
   ·rw [if_pos c5] at H
    have c5b0 : decide (12 < (l0.length : Int)) = true := decide_eq_true c5
    have c5b1 : decide (12 < l0.length) = true := decide_eq_true (by omega)
    clear c5
    have H' := Aside0.mk H
    clear H
    go_wp2
    go_meet
    case rel => exact ⟨_, (true), (by first | rfl | (simp; done) | (simp [*]; done)), H', ⟨by first | omega | exact Nat.le_refl _⟩, ⟨bh_ HB⟩⟩
   ·rw [if_neg c5] at H
    have c5b0 : decide (12 < (l0.length : Int)) = false := decide_eq_false c5
    have c5b1 : decide (12 < l0.length) = false := decide_eq_false (by omega)
    clear c5
    have H' := Aside0.mk H
    clear H
    go_wp2
    go_meet
    case rel => exact ⟨_, (decide ((l1.length : Int) < (l0.length : Int))), (by first | rfl | (simp; done) | (simp [*]; done)), H', ⟨by first | omega | exact Nat.le_refl _⟩, ⟨bh_ HB⟩⟩
 case rest =>
  clear HC3
  try clear c1
  try clear p2
  try clear c4
  try clear c4b0
  try clear c4b1
  try clear c5
  try clear c5b0
  try clear c5b1
  obtain ⟨kq, x29_2, rfl, HA, HJ2, HB⟩ := hcut
  cases kq with
  | zero => exact absurd HA.out (by simp [salvorlaw2_NumFactors.j0])
  | succ kj2 =>
   have H := HA.out
   clear HA
   simp only [salvorlaw2_NumFactors.j0] at H
   by_cases c6 : x29_2 = true
   ·subst c6
    have H1 : ((salvorlaw2_NumRuns.f kj2).bind fun t143 => (some t143)) = some r := by rw [if_pos rfl] at H; exact H
    clear H
    have H := H1
    clear H1
    replace H := Option.bind_eq_some_iff.mp H
    obtain ⟨t143, A70, H⟩ := H
    replace H : (some t143) = some r := H
    have A7 := Aside0.mk A70
    clear A70
    obtain rfl := Option.some.inj H
    go_wp2_with (first | ((with_reducible refine gate_callee (f := 3) rfl ?_); refine gl_ (some 30) rfl rfl Tryd.func3 (by kernel_rfl) rfl #[] rfl ?_; (with_reducible refine (salvorlaw2_NumRuns.calls kj2  t143 _ A7.out ?tb0_).mono ?_); (case tb0_ => exact tb_ HTAB HB); rintro e w8 ⟨rfl, hb⟩; refine ⟨_, rfl, ?_⟩; replace HB := bs_ HB hb; (try clear hb)))
    go_ret
    exact ⟨by first | rfl | (simp [errW_none, errW_some] <;> rfl) | (simp [*, errW_none, errW_some] <;> rfl), bh_ HB⟩
   ·replace c6 := Bool.eq_false_iff.mpr c6
    subst c6
    have H1 : ((salvorlaw2_suffixes.f).bind fun bt144 => (salvorlaw2_NumFactors.l0 kj2 l0 l1 bt144.1 bt144.2 (⟨#[]⟩ : ByteArray) ([] : List Int) 0)) = some r := by rw [if_neg (show ¬ (false = true) by decide)] at H; exact H
    clear H
    have H := H1
    clear H1
    replace H := Option.bind_eq_some_iff.mp H
    obtain ⟨⟨t144, t145⟩, A90, H⟩ := H
    replace H : (salvorlaw2_NumFactors.l0 kj2 l0 l1 t144 t145 (⟨#[]⟩ : ByteArray) ([] : List Int) 0) = some r := H
    have A9 := Aside0.mk A90
    clear A90
    have H' := Aside0.mk H
    clear H
    go_wp2_with (first | ((with_reducible refine gate_callee (f := 13) rfl ?_); refine gl_ (some 32) rfl rfl Tryd.func13 (by kernel_rfl) rfl #[] rfl ?_; (with_reducible refine (salvorlaw2_suffixes.calls  t144 t145 _ A9.out).mono ?_); rintro e w10 ⟨v146, v148, rfl, ho0, ho1, hb⟩; refine ⟨_, rfl, ?_⟩; have HO147 := Aside0.mk (Kd.R_lower ho0 (below_size (bh_ HB))); have HO149 := Aside0.mk (Kd.R_lower ho1 (below_size (bh_ HB))); replace HB := bs_ HB hb; (try clear hb); (try clear hb2); (try clear hk); (try clear hi); (try clear ho0); (try clear ho1)))
    go_loopg [7, 8, 9] kj2 (fun kq v7 v8 v9 w' => ∃ (x7_2 : ByteArray) (x8_2 : List Int) (x9_2 : Int), v7 = .string x7_2 ∧ v9 = .int .i64 x9_2 ∧ Aside0 (salvorlaw2_NumFactors.l0 kq l0 l1 t144 t145 x7_2 x8_2 x9_2 = some r) ∧ Aside0 (kq ≤ kj2) ∧ Aside0 (Kd.R Kd.string 9 w' w.heap.size (fun _ => True) v146 t144) ∧ Aside0 (Kd.R (Kd.int .i64) 3 w' w.heap.size (fun k_ => some k_ ≠ (v8 : Value).ownBlock) v148 t145) ∧ Aside0 (Kd.R (Kd.int .i64) 3 w' w.heap.size (fun k_ => some k_ ≠ (v148 : Value).ownBlock) v8 x8_2) ∧ Aside0 (Below w.heap.size w w'))
    case atStart => exact ⟨((⟨#[]⟩ : ByteArray)), (([] : List Int)), (0), (by first | rfl | (simp; done) | (simp [*]; done)), (by first | rfl | (simp; done) | (simp [*]; done)), H', ⟨Nat.le_refl _⟩, ⟨by (with_reducible repeat (first | apply Kd.R_alloc | apply Kd.R_drewN | apply Kd.R_drew)); exact HO147.out⟩, ⟨by (with_reducible repeat (first | apply Kd.R_alloc | apply Kd.R_drewN | apply Kd.R_drew)); exact Kd.R_mono HO149.out (fun _ hk => (by simp [Value.ownBlock]))⟩, ⟨by first | exact Kd.R_nil _ _ _ _ _ | exact Kd.N_nil _ _ _ _ _ | exact Kd.V_nil _ _ _ _ _ | exact Kd.Q_nil _ _ _ _ _ | exact Kd.S_nil _ _ _ _ _⟩, ⟨bh_ HB⟩⟩
    case round =>
     clear H'
     try clear c1
     try clear p2
     try clear c3
     try clear c4
     try clear c4b0
     try clear c4b1
     try clear c5
     try clear c5b0
     try clear c5b1
     try clear c6
     try clear p2
     obtain ⟨x7_2, x8_2, x9_2, rfl, rfl, HA, HK2, HO_5, HO_6, HO_8, HB⟩ := hrel
     cases gk with
     | zero => exact absurd HA.out (by simp [salvorlaw2_NumFactors.l0])
     | succ k2 =>
      have H := HA.out
      clear HA
      simp only [salvorlaw2_NumFactors.l0] at H
      by_cases c11 : x9_2 < (l0.length : Int)
      ·rw [if_pos c11] at H
       have c11b0 : decide (x9_2 < (l0.length : Int)) = true := decide_eq_true c11
       clear c11
       by_cases c12 : 0 ≤ x9_2
       ·rw [if_pos c12] at H
        have c12b0 : decide (0 ≤ x9_2) = true := decide_eq_true c12
        clear c12
        by_cases c13 : x9_2 < (l1.length : Int)
        ·rw [if_pos c13] at H
         have c13b0 : decide (x9_2 < (l1.length : Int)) = true := decide_eq_true c13
         clear c13
         by_cases c14 : (t144.length : Int) = 0
         ·rw [if_pos c14] at H
          exact absurd H (by simp)
         ·rw [if_neg c14] at H
          have c14b0 : ((t144.length : Int) == 0) = false := beq_eq_false_iff_ne.mpr c14
          have c14b1 : ((t144.length : Int) != 0) = true := bne_iff_ne.mpr c14
          have c14b2 : ¬ (t144 = []) := fun h_ => c14 (by rw [h_]; rfl)
          by_cases c15 : x9_2 > 0
          ·rw [if_pos c15] at H
           have c15b0 : decide (0 < x9_2) = true := decide_eq_true c15
           clear c15
           by_cases c16 : x7_2.size + 1 ≤ 9223372036854775807
           ·rw [if_pos c16] at H
            have c16b0 := eq_true c16
            have c16b1 : decide (x7_2.size + 1 ≤ 9223372036854775807) = true := decide_eq_true c16
            try have c16b2 : (9223372036854775807 < x7_2.size + 1) = False := eq_false (Nat.not_lt.2 c16)
            replace H := Option.bind_eq_some_iff.mp H
            obtain ⟨t152, A170, H⟩ := H
            replace H : (if (x7_2 ++ (⟨#[120]⟩ : ByteArray)).size + t152.size ≤ 9223372036854775807 then (if 0 ≤ (Int.tmod (wrap64 (rd l1 x9_2)) (t144.length : Int)) then (if (Int.tmod (wrap64 (rd l1 x9_2)) (t144.length : Int)) < (t144.length : Int) then (if ((x7_2 ++ (⟨#[120]⟩ : ByteArray)) ++ t152).size + (rdOf ByteArray.empty t144 (Int.tmod (wrap64 (rd l1 x9_2)) (t144.length : Int))).size ≤ 9223372036854775807 then (if (Int.tmod (wrap64 (rd l1 x9_2)) (t144.length : Int)) < (t145.length : Int) then ((some (([wrap64 (rd l0 x9_2), rd t145 (Int.tmod (wrap64 (rd l1 x9_2)) (t144.length : Int))] : List Int) : List Int)).bind fun y156 => (if x8_2.length + y156.length < 17592186044416 then (salvorlaw2_NumFactors.l0 k2 l0 l1 t144 t145 (((x7_2 ++ (⟨#[120]⟩ : ByteArray)) ++ t152) ++ (rdOf ByteArray.empty t144 (Int.tmod (wrap64 (rd l1 x9_2)) (t144.length : Int)))) (x8_2 ++ y156) (wrap64 (x9_2 + 1))) else (none))) else (none)) else (none)) else (none)) else (none)) else (none)) = some r := H
            have A17 := Aside0.mk A170
            clear A170
            by_cases c18 : (x7_2 ++ (⟨#[120]⟩ : ByteArray)).size + t152.size ≤ 9223372036854775807
            ·rw [if_pos c18] at H
             have c18b0 := eq_true c18
             have c18b1 : decide ((x7_2 ++ (⟨#[120]⟩ : ByteArray)).size + t152.size ≤ 9223372036854775807) = true := decide_eq_true c18
             try have c18b2 : (9223372036854775807 < (x7_2 ++ (⟨#[120]⟩ : ByteArray)).size + t152.size) = False := eq_false (Nat.not_lt.2 c18)
             try have c18b3 : (9223372036854775807 < x7_2.size + 1 + t152.size) = False := eq_false (Nat.not_lt.2 (by have h_ := c18; simp only [ByteArray.size_append] at h_; exact h_))
             obtain ⟨ji19, hji19⟩ : ∃ j_ : Int, (Int.tmod (wrap64 (rd l1 x9_2)) (t144.length : Int)) = j_ := ⟨_, rfl⟩
             replace H : (if 0 ≤ (ji19) then (if (ji19) < (t144.length : Int) then (if ((x7_2 ++ (⟨#[120]⟩ : ByteArray)) ++ t152).size + (rdOf ByteArray.empty t144 (ji19)).size ≤ 9223372036854775807 then (if (ji19) < (t145.length : Int) then ((some (([wrap64 (rd l0 x9_2), rd t145 (ji19)] : List Int) : List Int)).bind fun y156 => (if x8_2.length + y156.length < 17592186044416 then (salvorlaw2_NumFactors.l0 k2 l0 l1 t144 t145 (((x7_2 ++ (⟨#[120]⟩ : ByteArray)) ++ t152) ++ (rdOf ByteArray.empty t144 (ji19))) (x8_2 ++ y156) (wrap64 (x9_2 + 1))) else (none))) else (none)) else (none)) else (none)) else (none)) = some r := by first | (rw [hji19] at H; exact H) | (simp only [hji19] at H ⊢; exact H)
             (try rw [hji19] at A17)
             by_cases c20 : 0 ≤ (ji19)
             ·rw [if_pos c20] at H
              have c20b0 : decide (0 ≤ (ji19)) = true := decide_eq_true c20
              clear c20
              by_cases c21 : (ji19) < (t144.length : Int)
              ·rw [if_pos c21] at H
               have c21b0 : decide ((ji19) < (t144.length : Int)) = true := decide_eq_true c21
               clear c21
               by_cases c22 : ((x7_2 ++ (⟨#[120]⟩ : ByteArray)) ++ t152).size + (rdOf ByteArray.empty t144 (ji19)).size ≤ 9223372036854775807
               ·rw [if_pos c22] at H
                have c22b0 := eq_true c22
                have c22b1 : decide (((x7_2 ++ (⟨#[120]⟩ : ByteArray)) ++ t152).size + (rdOf ByteArray.empty t144 (ji19)).size ≤ 9223372036854775807) = true := decide_eq_true c22
                try have c22b2 : (9223372036854775807 < ((x7_2 ++ (⟨#[120]⟩ : ByteArray)) ++ t152).size + (rdOf ByteArray.empty t144 (ji19)).size) = False := eq_false (Nat.not_lt.2 c22)
                try have c22b3 : (9223372036854775807 < x7_2.size + 1 + t152.size + (rdOf ByteArray.empty t144 (ji19)).size) = False := eq_false (Nat.not_lt.2 (by have h_ := c22; simp only [ByteArray.size_append] at h_; exact h_))
                by_cases c23 : (ji19) < (t145.length : Int)
                ·rw [if_pos c23] at H
                 have c23b0 : decide ((ji19) < (t145.length : Int)) = true := decide_eq_true c23
                 clear c23
                 obtain ⟨y156, hy156⟩ : ∃ y_ : List Int, y_ = (([wrap64 (rd l0 x9_2), rd t145 (ji19)] : List Int)) := ⟨_, rfl⟩
                 replace H : (if x8_2.length + y156.length < 17592186044416 then (salvorlaw2_NumFactors.l0 k2 l0 l1 t144 t145 (((x7_2 ++ (⟨#[120]⟩ : ByteArray)) ++ t152) ++ (rdOf ByteArray.empty t144 (ji19))) (x8_2 ++ y156) (wrap64 (x9_2 + 1))) else (none)) = some r := by first | (rw [hy156]; with_reducible exact H) | (have H2_ := (Option.bind_some _ _).symm.trans H; rw [hy156]; with_reducible exact H2_) | (have H2_ := (Option.bind_some _ _).symm.trans H; with_reducible exact H2_) | with_reducible exact H | (rw [hy156]; exact H) | exact H
                 have Ny156 := Aside0.mk hy156
                 clear hy156
                 by_cases c24 : x8_2.length + y156.length < 17592186044416
                 ·rw [if_pos c24] at H
                  have LMc24 := Aside0.mk c24
                  clear c24
                  obtain ⟨y159, hy159⟩ : ∃ y_ : List Int, y_ = (x8_2 ++ y156) := ⟨_, rfl⟩
                  replace H : (salvorlaw2_NumFactors.l0 k2 l0 l1 t144 t145 (((x7_2 ++ (⟨#[120]⟩ : ByteArray)) ++ t152) ++ (rdOf ByteArray.empty t144 (ji19))) y159 (wrap64 (x9_2 + 1))) = some r := by first | (rw [hy159]; with_reducible exact H) | (have H2_ := (Option.bind_some _ _).symm.trans H; rw [hy159]; with_reducible exact H2_) | (have H2_ := (Option.bind_some _ _).symm.trans H; with_reducible exact H2_) | with_reducible exact H | (rw [hy159]; exact H) | exact H
                  have Ny159 := Aside0.mk hy159
                  clear hy159
                  have H' := Aside0.mk H
                  clear H
                  have p150 : 0 ≤ (x9_2 : Int) := of_decide_eq_true (by first | (with_reducible assumption) | assumption)
                  have q150 : x9_2 < (l1.length : Int) := of_decide_eq_true (by first | (with_reducible assumption) | assumption)
                  obtain ⟨ad150, e150, hx150_0⟩ := Kd.at_int HR1.out x9_2 p150 q150
                  cases e150
                  replace hx150_0 := (HB.out.cell (World.block_lt_of_cell? w _ hx150_0)).trans hx150_0
                  replace p150 := eq_true p150
                  replace q150 := eq_true q150
                  obtain ⟨Ao25, co25, eo25⟩ := Kd.R_slice HO_5.out
                  subst eo25
                  try go_wp2
                  replace HO_5 := Aside0.mk (Kd.R_drew HO_5.out)
                  replace HO_6 := Aside0.mk (Kd.R_drew HO_6.out)
                  replace HO_8 := Aside0.mk (Kd.R_drew HO_8.out)
                  replace HB := Aside0.mk (below_drew1 HB.out)
                  have p151 : 0 ≤ (x9_2 : Int) := of_decide_eq_true (by first | (with_reducible assumption) | assumption)
                  have q151 : x9_2 < (l0.length : Int) := of_decide_eq_true (by first | (with_reducible assumption) | assumption)
                  obtain ⟨ad151, e151, hx151_0⟩ := Kd.at_int HR0.out x9_2 p151 q151
                  have hw151_0 := hx151_0
                  cases e151
                  replace hx151_0 := (HB.out.cell (World.block_lt_of_cell? w _ hx151_0)).trans hx151_0
                  replace p151 := eq_true p151
                  replace q151 := eq_true q151
                  have p153 : 0 ≤ ((ji19) : Int) := of_decide_eq_true (by first | (with_reducible assumption) | assumption)
                  have q153 : (ji19) < (t144.length : Int) := of_decide_eq_true (by first | (with_reducible assumption) | assumption)
                  obtain ⟨ad153, e153, hx153_0⟩ := Kd.at_string (Kd.R_reads' HO_5.out).2.2 (ji19) p153 q153
                  cases e153
                  replace p153 := eq_true p153
                  replace q153 := eq_true q153
                  refine start_ (n := 14) (S := fun w' => w'.cell? (ad151.add (x9_2).toNat) = some (.int .u16 (rd l0 x9_2)) ∧ w'.cell? (ad153.add ((ji19)).toNat) = some (.string (rdOf ByteArray.empty t144 (ji19)))) (ds := []) #[false, false, false, false, false, false, false, false, false, false, false, false, false, false] (by kernel_rfl) rfl rfl ⟨((HB.out.cell (World.block_lt_of_cell? w _ hw151_0)).trans hw151_0), hx153_0⟩ (fun hHeld => ?_); refine with_tabW salvorlaw2_NumFactors.tab12 salvorlaw2_NumFactors.bits12 (fun HT_ HW_ => ?_)
                  generalize wr.drew = w26 at HO_5 HO_6 HO_8 HB hx151_0 hx153_0 hHeld ⊢
                  refine pu_ 0 53 (lb_ 14 1) rfl rfl (ao_ HT_) ?_
                  refine pu_ 1 54 (lb_ 14 3) rfl rfl (ao_ HT_) ?_
                  refine pu_ 2 55 (lb_ 14 7) rfl rfl (ao_ HT_) ?_
                  refine pu_ 3 56 (lb_ 14 15) rfl rfl (ao_ HT_) ?_
                  refine pu_ 8 61 (lb_ 14 271) rfl rfl (ao_ HT_) ?_
                  refine pu_ 9 62 (lb_ 14 783) rfl rfl (ao_ HT_) ?_
                  refine pu_ 10 63 (lb_ 14 1807) rfl rfl (ao_ HT_) ?_
                  refine tk_ 4 57 (lb_ 14 1823) rfl rfl (take_ofW HT_.out HW_.out (by kernel_rfl)) hHeld ?_
                  refine pu_ 5 58 (lb_ 14 1855) rfl rfl (ao_ HT_) ?_
                  refine tk_ 11 64 (lb_ 14 3903) rfl rfl (take_ofW HT_.out HW_.out (by kernel_rfl)) hHeld ?_
                  refine one_ (i := 6) (N := some 59) #[true, true, true, true, true, true, true, false, true, true, true, true, false, false] rfl rfl (one_of HT_.out (by kernel_rfl)) (by decide) (fun K hK => ?_)
                  refine gq_ Tryd.func12 (by kernel_rfl) rfl #[.int .i64 (wrap64 (rd l0 x9_2))] (by rfl) rfl rfl ?_
                  with_reducible refine (num_Dec.calls (wrap64 (rd l0 x9_2)) t152 _ A17.out ?tb2_).mono ?_
                  (case tb2_ => exact tb_ HTAB HB)
                  rintro e w27 ⟨rfl, hb⟩
                  have HS1_ := (hb.cell (World.block_lt_of_cell? _ _ (hHeld.2))).trans (hHeld.2)
                  refine ⟨_, rfl, ?_⟩
                  have n0_ := Aside0.mk (Kd.R_below (by (with_reducible repeat (first | apply Kd.R_alloc | apply Kd.R_drewN | apply Kd.R_drew)); exact HO_5.out) hb)
                  have n1_ := Aside0.mk (Kd.R_below (by (with_reducible repeat (first | apply Kd.R_alloc | apply Kd.R_drewN | apply Kd.R_drew)); exact HO_6.out) hb)
                  have n2_ := Aside0.mk (Kd.R_below (by (with_reducible repeat (first | apply Kd.R_alloc | apply Kd.R_drewN | apply Kd.R_drew)); exact HO_8.out) hb)
                  have n3_ := bs_ HB hb
                  clear HO_5
                  clear HO_6
                  clear HO_8
                  clear HB
                  have HO_5 := n0_
                  have HO_6 := n1_
                  have HO_8 := n2_
                  have HB := n3_
                  clear n0_ n1_ n2_ n3_
                  (try clear hb)
                  refine hK.out _ _ ⟨((HB.out.cell (World.block_lt_of_cell? w _ hw151_0)).trans hw151_0), HS1_⟩ (fun hHeld => ?_)
                  clear hK K
                  refine nm_ 59 ?_
                  refine pu_ 7 60 (lb_ 14 4095) rfl rfl (ao_ HT_) ?_
                  refine pu_ 12 65 (lb_ 14 8191) rfl rfl (ao_ HT_) ?_
                  refine pu_ 13 7 (lb_ 14 16383) rfl rfl (ao_ HT_) ?_
                  refine done_ (done_of HT_.out (by kernel_rfl)) ?_
                  try go_wp2
                  replace HO_5 := Aside0.mk (Kd.R_drew HO_5.out)
                  replace HO_6 := Aside0.mk (Kd.R_drew HO_6.out)
                  replace HO_8 := Aside0.mk (Kd.R_drew HO_8.out)
                  replace HB := Aside0.mk (below_drew1 HB.out)
                  have p154 : 0 ≤ (x9_2 : Int) := of_decide_eq_true (by first | (with_reducible assumption) | assumption)
                  have q154 : x9_2 < (l0.length : Int) := of_decide_eq_true (by first | (with_reducible assumption) | assumption)
                  obtain ⟨ad154, e154, hx154_0⟩ := Kd.at_int HR0.out x9_2 p154 q154
                  have hw154_0 := hx154_0
                  obtain rfl : ad151 = ad154 := (by injection e154)
                  replace hx154_0 := (HB.out.cell (World.block_lt_of_cell? w _ hx154_0)).trans hx154_0
                  replace p154 := eq_true p154
                  replace q154 := eq_true q154
                  obtain ⟨Ao29, co29, eo29⟩ := Kd.R_slice HO_6.out
                  (first | subst eo29 | (injection eo29 with f1_ f2_ f3_; have f4_ := f1_.symm; have f5_ := f3_.symm; clear f1_ f2_ f3_; subst f4_; subst f5_))
                  have p155 : 0 ≤ ((ji19) : Int) := of_decide_eq_true (by first | (with_reducible assumption) | assumption)
                  have q155 : (ji19) < (t145.length : Int) := of_decide_eq_true (by first | (with_reducible assumption) | assumption)
                  obtain ⟨ad155, e155, hx155_0⟩ := Kd.at_int (Kd.R_reads' HO_6.out).2.2 (ji19) p155 q155
                  cases e155
                  replace p155 := eq_true p155
                  replace q155 := eq_true q155
                  refine start_ (n := 13) (S := fun w' => w'.cell? (ad151.add (x9_2).toNat) = some (.int .u16 (rd l0 x9_2)) ∧ w'.cell? (ad155.add ((ji19)).toNat) = some (.int .i64 (rd t145 (ji19)))) (ds := [11]) #[false, false, false, false, false, false, false, false, false, false, false, false, false] (by kernel_rfl) rfl rfl ⟨((HB.out.cell (World.block_lt_of_cell? w _ hw154_0)).trans hw154_0), hx155_0⟩ (fun hHeld => ?_); refine with_tabW salvorlaw2_NumFactors.tab13 salvorlaw2_NumFactors.bits13 (fun HT_ HW_ => ?_)
                  generalize w27.drew = w28 at HO_5 HO_6 HO_8 HB hx154_0 hx155_0 hHeld ⊢
                  refine pu_ 0 66 (lb_ 13 1) rfl rfl (ao_ HT_) ?_
                  refine pu_ 1 67 (lb_ 13 3) rfl rfl (ao_ HT_) ?_
                  refine pu_ 2 68 (lb_ 13 7) rfl rfl (ao_ HT_) ?_
                  refine pu_ 3 69 (lb_ 13 15) rfl rfl (ao_ HT_) ?_
                  refine pu_ 6 72 (lb_ 13 79) rfl rfl (ao_ HT_) ?_
                  refine pu_ 7 73 (lb_ 13 207) rfl rfl (ao_ HT_) ?_
                  refine pu_ 8 74 (lb_ 13 463) rfl rfl (ao_ HT_) ?_
                  refine tk_ 4 70 (lb_ 13 479) rfl rfl (take_ofW HT_.out HW_.out (by kernel_rfl)) hHeld ?_
                  refine pu_ 5 71 (lb_ 13 511) rfl rfl (ao_ HT_) ?_
                  refine tk_ 9 75 (lb_ 13 1023) rfl rfl (take_ofW HT_.out HW_.out (by kernel_rfl)) hHeld ?_
                  refine one_ (i := 10) (N := some 76) #[true, true, true, true, true, true, true, true, true, true, true, false, false] rfl rfl (one_of HT_.out (by kernel_rfl)) (by decide) (fun K hK => ?_)
                  refine Kd.R_lit_step (Kd.int .i64) _ 3 ?hg (N := 76) ?hd (xs := ([wrap64 (rd l0 x9_2), rd t145 (ji19)] : List Int)) (inner := [.int .i64 (wrap64 (rd l0 x9_2)), .int .i64 (rd t145 (ji19))]) (ok := fun _ => True) (okp := fun _ => True) ?hr ?hp (fun _ hk => hk) trivial (Below.refl _ _) (Nat.le_refl _) (by simp) ?_; (case hd => rfl); (case hg => rfl); (case hr => first | (go_simp; done) | (go_simp; rfl)); (case hp => exact (Reps.one (show Kd.M (Kd.int .i64) _ _ _ (wrap64 (rd l0 x9_2)) [.int .i64 (wrap64 (rd l0 x9_2))] from rfl) (Reps.one (show Kd.M (Kd.int .i64) _ _ _ (rd t145 (ji19)) [.int .i64 (rd t145 (ji19))] from rfl) (Reps.none _ _))))
                  intro v157 w30 ho31 hb hg_ hnew_
                  have HS1_ := (hb.cell (World.block_lt_of_cell? _ _ (hHeld.2))).trans (hHeld.2)
                  clear hg_ hnew_
                  (first | rw [← Ny156.out] at ho31 | (simp only [Int.reduceToNat] at ho31; rw [← Ny156.out] at ho31))
                  have n0_ := Aside0.mk (Kd.R_below (by (with_reducible repeat (first | apply Kd.R_alloc | apply Kd.R_drewN | apply Kd.R_drew)); exact HO_5.out) hb)
                  have n1_ := Aside0.mk (Kd.R_elder' (by (with_reducible repeat (first | apply Kd.R_alloc | apply Kd.R_drewN | apply Kd.R_drew)); exact HO_6.out) (Kd.R_base ho31) hb)
                  have n2_ := Aside0.mk (Kd.R_elder' (by (with_reducible repeat (first | apply Kd.R_alloc | apply Kd.R_drewN | apply Kd.R_drew)); exact HO_8.out) (Kd.R_base ho31) hb)
                  have n3_ := Aside0.mk (Kd.R_lower (Kd.R_new' (Kd.R_new' ho31 (Kd.R_lt (by (with_reducible repeat (first | apply Kd.R_alloc | apply Kd.R_drewN | apply Kd.R_drew)); exact HO_6.out))) (Kd.R_lt (by (with_reducible repeat (first | apply Kd.R_alloc | apply Kd.R_drewN | apply Kd.R_drew)); exact HO_8.out))) (below_size (bh_ HB)))
                  have n4_ := bs_ HB hb
                  clear HO_5
                  clear HO_6
                  clear HO_8
                  clear HB
                  have HO_5 := n0_
                  have HO_6 := n1_
                  have HO_8 := n2_
                  have HO158 := n3_
                  have HB := n4_
                  clear n0_ n1_ n2_ n3_ n4_
                  clear hb ho31
                  obtain ⟨Ao33, co33, eo33⟩ := Kd.R_slice HO158.out
                  (first | subst eo33 | (injection eo33 with f1_ f2_ f3_; have f4_ := f1_.symm; have f5_ := f3_.symm; clear f1_ f2_ f3_; subst f4_; subst f5_))
                  refine hK.out _ _ ⟨((HB.out.cell (World.block_lt_of_cell? w _ hw154_0)).trans hw154_0), HS1_⟩ (fun hHeld => ?_)
                  clear hK K
                  refine nm_ 76 ?_
                  refine last_ (i := 11) (N := some 77) #[true, true, true, true, true, true, true, true, true, true, true, true, false] rfl rfl (one_of HT_.out (by kernel_rfl)) (by decide) (fun K hK => ?_)
                  refine Kd.R_append_rows_step (Kd.int .i64) (w0 := w) w.heap.size (by rfl) (.tmp 66) (.tmp 76) 29 3 (.int .i64 0) 8 rfl Tryd.underlying29 info3 rfl (by decide) (by omega) u8 x8_2 y156 _ _ _ (fun k_ => some k_ ≠ (.slice (some ad155) t145.length co29 : Value).ownBlock ∧ some k_ ≠ (.slice Ao33 y156.length co33 : Value).ownBlock) (fun _ => False) rfl rfl ?aO ?aR (fun _ _ h => h) (fun _ h => h.elim) ?aF ?aB ?aS ?aL ?_
                  (case aR => repeat (first | exact (Kd.R_reads' HO158.out).2.2 | (with_reducible refine Kd.C_alloc ?_ _) | (with_reducible refine Kd.C_drewN ?_ _) | (with_reducible refine Kd.C_drew ?_)))
                  (case aB => exact (bh_ HB))
                  (case aF => exact (fun k_ hk => ⟨Kd.fresh' (Kd.R_lt (by (with_reducible repeat (first | apply Kd.R_alloc | apply Kd.R_drewN | apply Kd.R_drew)); exact HO_6.out)) k_ hk, Kd.fresh' (Kd.R_lt (by (with_reducible repeat (first | apply Kd.R_alloc | apply Kd.R_drewN | apply Kd.R_drew)); exact HO158.out)) k_ hk⟩))
                  (case aO => exact (by (with_reducible repeat (first | apply Kd.R_alloc | apply Kd.R_drewN | apply Kd.R_drew)); exact HO_8.out))
                  (case aS => exact (below_size (bh_ HB)))
                  (case aL => have := LMc24.out; omega)
                  intro v160 w32 ho hb hg hat
                  rw [← Ny159.out] at ho
                  have n0_ := Aside0.mk (Kd.R_over' (by (with_reducible repeat (first | apply Kd.R_alloc | apply Kd.R_drewN | apply Kd.R_drew)); exact HO_5.out) (Kd.R_typed (by (with_reducible repeat (first | apply Kd.R_alloc | apply Kd.R_drewN | apply Kd.R_drew)); exact HO_8.out)) (by decide) hg)
                  have n1_ := Aside0.mk (Kd.R_after (ok := (fun k_ => some k_ ≠ (.slice Ao33 y156.length co33 : Value).ownBlock)) (by (with_reducible repeat (first | apply Kd.R_alloc | apply Kd.R_drewN | apply Kd.R_drew)); exact Kd.R_mono HO_6.out (fun _ hk => ⟨hk.2, hk.1⟩)) hg hat)
                  have n2_ := Aside0.mk (Kd.R_after (ok := (fun k_ => some k_ ≠ (.slice (some ad155) t145.length co29 : Value).ownBlock)) (by (with_reducible repeat (first | apply Kd.R_alloc | apply Kd.R_drewN | apply Kd.R_drew)); exact Kd.R_mono HO158.out (fun _ hk => ⟨hk.1.2, hk.2⟩)) hg hat)
                  have n3_ := Aside0.mk (hb)
                  have n4_ := Aside0.mk (ho)
                  clear HO_5
                  clear HO_6
                  clear HO158
                  clear HB
                  clear HO_8
                  have HO_5 := n0_
                  have HO_6 := n1_
                  have HO158 := n2_
                  have HB := n3_
                  have HO161 := n4_
                  clear n0_ n1_ n2_ n3_ n4_
                  clear ho hb hg hat
                  refine hK.out _ _ ?_
                  clear hK K
                  refine nm_ 77 ?_
                  refine pu_ 12 8 (lb_ 13 8191) rfl rfl (ao_ HT_) ?_
                  refine done_ (done_of HT_.out (by kernel_rfl)) ?_
                  try go_wp2
                  go_roundg k2
                  case measure => have := HJ2.out; have := HK2.out; omega
                  case rel => exact ⟨(((x7_2 ++ (⟨#[120]⟩ : ByteArray)) ++ t152) ++ (rdOf ByteArray.empty t144 (ji19))), (y159), (wrap64 (x9_2 + 1)), (by first | rfl | (simp; done) | (simp only [← hji19] <;> (first | rfl | simp)) | (simp [*]; done)), (by first | rfl | (simp; done) | (simp [*]; done)), H', ⟨by have := HJ2.out; have := HK2.out; omega⟩, ⟨by (with_reducible repeat (first | apply Kd.R_alloc | apply Kd.R_drewN | apply Kd.R_drew)); exact HO_5.out⟩, ⟨by (with_reducible repeat (first | apply Kd.R_alloc | apply Kd.R_drewN | apply Kd.R_drew)); exact Kd.R_mono HO_6.out (fun _ hk => hk.2)⟩, ⟨by (with_reducible repeat (first | apply Kd.R_alloc | apply Kd.R_drewN | apply Kd.R_drew)); exact Kd.R_mono HO161.out (fun _ hk => hk.1)⟩, ⟨bh_ HB⟩⟩
                 ·rw [if_neg c24] at H
                  exact absurd H (by simp)
                ·rw [if_neg c23] at H
                 exact absurd H (by simp)
               ·rw [if_neg c22] at H
                exact absurd H (by simp)
              ·rw [if_neg c21] at H
               exact absurd H (by simp)
             ·rw [if_neg c20] at H
              exact absurd H (by simp)
            ·rw [if_neg c18] at H
             exact absurd H (by simp)
           ·rw [if_neg c16] at H
            exact absurd H (by simp)
          ·rw [if_neg c15] at H
           have c15b0 : decide (0 < x9_2) = false := decide_eq_false c15
           clear c15
           replace H := Option.bind_eq_some_iff.mp H
           obtain ⟨t163, A340, H⟩ := H
           replace H : (if x7_2.size + t163.size ≤ 9223372036854775807 then (if 0 ≤ (Int.tmod (wrap64 (rd l1 x9_2)) (t144.length : Int)) then (if (Int.tmod (wrap64 (rd l1 x9_2)) (t144.length : Int)) < (t144.length : Int) then (if (x7_2 ++ t163).size + (rdOf ByteArray.empty t144 (Int.tmod (wrap64 (rd l1 x9_2)) (t144.length : Int))).size ≤ 9223372036854775807 then (if (Int.tmod (wrap64 (rd l1 x9_2)) (t144.length : Int)) < (t145.length : Int) then ((some (([wrap64 (rd l0 x9_2), rd t145 (Int.tmod (wrap64 (rd l1 x9_2)) (t144.length : Int))] : List Int) : List Int)).bind fun y167 => (if x8_2.length + y167.length < 17592186044416 then (salvorlaw2_NumFactors.l0 k2 l0 l1 t144 t145 ((x7_2 ++ t163) ++ (rdOf ByteArray.empty t144 (Int.tmod (wrap64 (rd l1 x9_2)) (t144.length : Int)))) (x8_2 ++ y167) (wrap64 (x9_2 + 1))) else (none))) else (none)) else (none)) else (none)) else (none)) else (none)) = some r := H
           have A34 := Aside0.mk A340
           clear A340
           by_cases c35 : x7_2.size + t163.size ≤ 9223372036854775807
           ·rw [if_pos c35] at H
            have c35b0 := eq_true c35
            have c35b1 : decide (x7_2.size + t163.size ≤ 9223372036854775807) = true := decide_eq_true c35
            try have c35b2 : (9223372036854775807 < x7_2.size + t163.size) = False := eq_false (Nat.not_lt.2 c35)
            obtain ⟨ji36, hji36⟩ : ∃ j_ : Int, (Int.tmod (wrap64 (rd l1 x9_2)) (t144.length : Int)) = j_ := ⟨_, rfl⟩
            replace H : (if 0 ≤ (ji36) then (if (ji36) < (t144.length : Int) then (if (x7_2 ++ t163).size + (rdOf ByteArray.empty t144 (ji36)).size ≤ 9223372036854775807 then (if (ji36) < (t145.length : Int) then ((some (([wrap64 (rd l0 x9_2), rd t145 (ji36)] : List Int) : List Int)).bind fun y167 => (if x8_2.length + y167.length < 17592186044416 then (salvorlaw2_NumFactors.l0 k2 l0 l1 t144 t145 ((x7_2 ++ t163) ++ (rdOf ByteArray.empty t144 (ji36))) (x8_2 ++ y167) (wrap64 (x9_2 + 1))) else (none))) else (none)) else (none)) else (none)) else (none)) = some r := by first | (rw [hji36] at H; exact H) | (simp only [hji36] at H ⊢; exact H)
            (try rw [hji36] at A34)
            by_cases c37 : 0 ≤ (ji36)
            ·rw [if_pos c37] at H
             have c37b0 : decide (0 ≤ (ji36)) = true := decide_eq_true c37
             clear c37
             by_cases c38 : (ji36) < (t144.length : Int)
             ·rw [if_pos c38] at H
              have c38b0 : decide ((ji36) < (t144.length : Int)) = true := decide_eq_true c38
              clear c38
              by_cases c39 : (x7_2 ++ t163).size + (rdOf ByteArray.empty t144 (ji36)).size ≤ 9223372036854775807
              ·rw [if_pos c39] at H
               have c39b0 := eq_true c39
               have c39b1 : decide ((x7_2 ++ t163).size + (rdOf ByteArray.empty t144 (ji36)).size ≤ 9223372036854775807) = true := decide_eq_true c39
               try have c39b2 : (9223372036854775807 < (x7_2 ++ t163).size + (rdOf ByteArray.empty t144 (ji36)).size) = False := eq_false (Nat.not_lt.2 c39)
               try have c39b3 : (9223372036854775807 < x7_2.size + t163.size + (rdOf ByteArray.empty t144 (ji36)).size) = False := eq_false (Nat.not_lt.2 (by have h_ := c39; simp only [ByteArray.size_append] at h_; exact h_))
               by_cases c40 : (ji36) < (t145.length : Int)
               ·rw [if_pos c40] at H
                have c40b0 : decide ((ji36) < (t145.length : Int)) = true := decide_eq_true c40
                clear c40
                obtain ⟨y167, hy167⟩ : ∃ y_ : List Int, y_ = (([wrap64 (rd l0 x9_2), rd t145 (ji36)] : List Int)) := ⟨_, rfl⟩
                replace H : (if x8_2.length + y167.length < 17592186044416 then (salvorlaw2_NumFactors.l0 k2 l0 l1 t144 t145 ((x7_2 ++ t163) ++ (rdOf ByteArray.empty t144 (ji36))) (x8_2 ++ y167) (wrap64 (x9_2 + 1))) else (none)) = some r := by first | (rw [hy167]; with_reducible exact H) | (have H2_ := (Option.bind_some _ _).symm.trans H; rw [hy167]; with_reducible exact H2_) | (have H2_ := (Option.bind_some _ _).symm.trans H; with_reducible exact H2_) | with_reducible exact H | (rw [hy167]; exact H) | exact H
                have Ny167 := Aside0.mk hy167
                clear hy167
                by_cases c41 : x8_2.length + y167.length < 17592186044416
                ·rw [if_pos c41] at H
                 have LMc41 := Aside0.mk c41
                 clear c41
                 obtain ⟨y170, hy170⟩ : ∃ y_ : List Int, y_ = (x8_2 ++ y167) := ⟨_, rfl⟩
                 replace H : (salvorlaw2_NumFactors.l0 k2 l0 l1 t144 t145 ((x7_2 ++ t163) ++ (rdOf ByteArray.empty t144 (ji36))) y170 (wrap64 (x9_2 + 1))) = some r := by first | (rw [hy170]; with_reducible exact H) | (have H2_ := (Option.bind_some _ _).symm.trans H; rw [hy170]; with_reducible exact H2_) | (have H2_ := (Option.bind_some _ _).symm.trans H; with_reducible exact H2_) | with_reducible exact H | (rw [hy170]; exact H) | exact H
                 have Ny170 := Aside0.mk hy170
                 clear hy170
                 have H' := Aside0.mk H
                 clear H
                 have p150 : 0 ≤ (x9_2 : Int) := of_decide_eq_true (by first | (with_reducible assumption) | assumption)
                 have q150 : x9_2 < (l1.length : Int) := of_decide_eq_true (by first | (with_reducible assumption) | assumption)
                 obtain ⟨ad150, e150, hx150_0⟩ := Kd.at_int HR1.out x9_2 p150 q150
                 cases e150
                 replace hx150_0 := (HB.out.cell (World.block_lt_of_cell? w _ hx150_0)).trans hx150_0
                 replace p150 := eq_true p150
                 replace q150 := eq_true q150
                 obtain ⟨Ao42, co42, eo42⟩ := Kd.R_slice HO_5.out
                 subst eo42
                 try go_wp2
                 replace HO_5 := Aside0.mk (Kd.R_drew HO_5.out)
                 replace HO_6 := Aside0.mk (Kd.R_drew HO_6.out)
                 replace HO_8 := Aside0.mk (Kd.R_drew HO_8.out)
                 replace HB := Aside0.mk (below_drew1 HB.out)
                 have p162 : 0 ≤ (x9_2 : Int) := of_decide_eq_true (by first | (with_reducible assumption) | assumption)
                 have q162 : x9_2 < (l0.length : Int) := of_decide_eq_true (by first | (with_reducible assumption) | assumption)
                 obtain ⟨ad162, e162, hx162_0⟩ := Kd.at_int HR0.out x9_2 p162 q162
                 have hw162_0 := hx162_0
                 cases e162
                 replace hx162_0 := (HB.out.cell (World.block_lt_of_cell? w _ hx162_0)).trans hx162_0
                 replace p162 := eq_true p162
                 replace q162 := eq_true q162
                 have p164 : 0 ≤ ((ji36) : Int) := of_decide_eq_true (by first | (with_reducible assumption) | assumption)
                 have q164 : (ji36) < (t144.length : Int) := of_decide_eq_true (by first | (with_reducible assumption) | assumption)
                 obtain ⟨ad164, e164, hx164_0⟩ := Kd.at_string (Kd.R_reads' HO_5.out).2.2 (ji36) p164 q164
                 cases e164
                 replace p164 := eq_true p164
                 replace q164 := eq_true q164
                 refine start_ (n := 14) (S := fun w' => w'.cell? (ad162.add (x9_2).toNat) = some (.int .u16 (rd l0 x9_2)) ∧ w'.cell? (ad164.add ((ji36)).toNat) = some (.string (rdOf ByteArray.empty t144 (ji36)))) (ds := []) #[false, false, false, false, false, false, false, false, false, false, false, false, false, false] (by kernel_rfl) rfl rfl ⟨((HB.out.cell (World.block_lt_of_cell? w _ hw162_0)).trans hw162_0), hx164_0⟩ (fun hHeld => ?_); refine with_tabW salvorlaw2_NumFactors.tab12 salvorlaw2_NumFactors.bits12 (fun HT_ HW_ => ?_)
                 generalize wr.drew = w43 at HO_5 HO_6 HO_8 HB hx162_0 hx164_0 hHeld ⊢
                 refine pu_ 0 53 (lb_ 14 1) rfl rfl (ao_ HT_) ?_
                 refine pu_ 1 54 (lb_ 14 3) rfl rfl (ao_ HT_) ?_
                 refine pu_ 2 55 (lb_ 14 7) rfl rfl (ao_ HT_) ?_
                 refine pu_ 3 56 (lb_ 14 15) rfl rfl (ao_ HT_) ?_
                 refine pu_ 8 61 (lb_ 14 271) rfl rfl (ao_ HT_) ?_
                 refine pu_ 9 62 (lb_ 14 783) rfl rfl (ao_ HT_) ?_
                 refine pu_ 10 63 (lb_ 14 1807) rfl rfl (ao_ HT_) ?_
                 refine tk_ 4 57 (lb_ 14 1823) rfl rfl (take_ofW HT_.out HW_.out (by kernel_rfl)) hHeld ?_
                 refine pu_ 5 58 (lb_ 14 1855) rfl rfl (ao_ HT_) ?_
                 refine tk_ 11 64 (lb_ 14 3903) rfl rfl (take_ofW HT_.out HW_.out (by kernel_rfl)) hHeld ?_
                 refine one_ (i := 6) (N := some 59) #[true, true, true, true, true, true, true, false, true, true, true, true, false, false] rfl rfl (one_of HT_.out (by kernel_rfl)) (by decide) (fun K hK => ?_)
                 refine gq_ Tryd.func12 (by kernel_rfl) rfl #[.int .i64 (wrap64 (rd l0 x9_2))] (by rfl) rfl rfl ?_
                 with_reducible refine (num_Dec.calls (wrap64 (rd l0 x9_2)) t163 _ A34.out ?tb4_).mono ?_
                 (case tb4_ => exact tb_ HTAB HB)
                 rintro e w44 ⟨rfl, hb⟩
                 have HS1_ := (hb.cell (World.block_lt_of_cell? _ _ (hHeld.2))).trans (hHeld.2)
                 refine ⟨_, rfl, ?_⟩
                 have n0_ := Aside0.mk (Kd.R_below (by (with_reducible repeat (first | apply Kd.R_alloc | apply Kd.R_drewN | apply Kd.R_drew)); exact HO_5.out) hb)
                 have n1_ := Aside0.mk (Kd.R_below (by (with_reducible repeat (first | apply Kd.R_alloc | apply Kd.R_drewN | apply Kd.R_drew)); exact HO_6.out) hb)
                 have n2_ := Aside0.mk (Kd.R_below (by (with_reducible repeat (first | apply Kd.R_alloc | apply Kd.R_drewN | apply Kd.R_drew)); exact HO_8.out) hb)
                 have n3_ := bs_ HB hb
                 clear HO_5
                 clear HO_6
                 clear HO_8
                 clear HB
                 have HO_5 := n0_
                 have HO_6 := n1_
                 have HO_8 := n2_
                 have HB := n3_
                 clear n0_ n1_ n2_ n3_
                 (try clear hb)
                 refine hK.out _ _ ⟨((HB.out.cell (World.block_lt_of_cell? w _ hw162_0)).trans hw162_0), HS1_⟩ (fun hHeld => ?_)
                 clear hK K
                 refine nm_ 59 ?_
                 refine pu_ 7 60 (lb_ 14 4095) rfl rfl (ao_ HT_) ?_
                 refine pu_ 12 65 (lb_ 14 8191) rfl rfl (ao_ HT_) ?_
                 refine pu_ 13 7 (lb_ 14 16383) rfl rfl (ao_ HT_) ?_
                 refine done_ (done_of HT_.out (by kernel_rfl)) ?_
                 try go_wp2
                 replace HO_5 := Aside0.mk (Kd.R_drew HO_5.out)
                 replace HO_6 := Aside0.mk (Kd.R_drew HO_6.out)
                 replace HO_8 := Aside0.mk (Kd.R_drew HO_8.out)
                 replace HB := Aside0.mk (below_drew1 HB.out)
                 have p165 : 0 ≤ (x9_2 : Int) := of_decide_eq_true (by first | (with_reducible assumption) | assumption)
                 have q165 : x9_2 < (l0.length : Int) := of_decide_eq_true (by first | (with_reducible assumption) | assumption)
                 obtain ⟨ad165, e165, hx165_0⟩ := Kd.at_int HR0.out x9_2 p165 q165
                 have hw165_0 := hx165_0
                 obtain rfl : ad162 = ad165 := (by injection e165)
                 replace hx165_0 := (HB.out.cell (World.block_lt_of_cell? w _ hx165_0)).trans hx165_0
                 replace p165 := eq_true p165
                 replace q165 := eq_true q165
                 obtain ⟨Ao46, co46, eo46⟩ := Kd.R_slice HO_6.out
                 (first | subst eo46 | (injection eo46 with f1_ f2_ f3_; have f4_ := f1_.symm; have f5_ := f3_.symm; clear f1_ f2_ f3_; subst f4_; subst f5_))
                 have p166 : 0 ≤ ((ji36) : Int) := of_decide_eq_true (by first | (with_reducible assumption) | assumption)
                 have q166 : (ji36) < (t145.length : Int) := of_decide_eq_true (by first | (with_reducible assumption) | assumption)
                 obtain ⟨ad166, e166, hx166_0⟩ := Kd.at_int (Kd.R_reads' HO_6.out).2.2 (ji36) p166 q166
                 cases e166
                 replace p166 := eq_true p166
                 replace q166 := eq_true q166
                 refine start_ (n := 13) (S := fun w' => w'.cell? (ad162.add (x9_2).toNat) = some (.int .u16 (rd l0 x9_2)) ∧ w'.cell? (ad166.add ((ji36)).toNat) = some (.int .i64 (rd t145 (ji36)))) (ds := [11]) #[false, false, false, false, false, false, false, false, false, false, false, false, false] (by kernel_rfl) rfl rfl ⟨((HB.out.cell (World.block_lt_of_cell? w _ hw165_0)).trans hw165_0), hx166_0⟩ (fun hHeld => ?_); refine with_tabW salvorlaw2_NumFactors.tab13 salvorlaw2_NumFactors.bits13 (fun HT_ HW_ => ?_)
                 generalize w44.drew = w45 at HO_5 HO_6 HO_8 HB hx165_0 hx166_0 hHeld ⊢
                 refine pu_ 0 66 (lb_ 13 1) rfl rfl (ao_ HT_) ?_
                 refine pu_ 1 67 (lb_ 13 3) rfl rfl (ao_ HT_) ?_
                 refine pu_ 2 68 (lb_ 13 7) rfl rfl (ao_ HT_) ?_
                 refine pu_ 3 69 (lb_ 13 15) rfl rfl (ao_ HT_) ?_
                 refine pu_ 6 72 (lb_ 13 79) rfl rfl (ao_ HT_) ?_
                 refine pu_ 7 73 (lb_ 13 207) rfl rfl (ao_ HT_) ?_
                 refine pu_ 8 74 (lb_ 13 463) rfl rfl (ao_ HT_) ?_
                 refine tk_ 4 70 (lb_ 13 479) rfl rfl (take_ofW HT_.out HW_.out (by kernel_rfl)) hHeld ?_
                 refine pu_ 5 71 (lb_ 13 511) rfl rfl (ao_ HT_) ?_
                 refine tk_ 9 75 (lb_ 13 1023) rfl rfl (take_ofW HT_.out HW_.out (by kernel_rfl)) hHeld ?_
                 refine one_ (i := 10) (N := some 76) #[true, true, true, true, true, true, true, true, true, true, true, false, false] rfl rfl (one_of HT_.out (by kernel_rfl)) (by decide) (fun K hK => ?_)
                 refine Kd.R_lit_step (Kd.int .i64) _ 3 ?hg (N := 76) ?hd (xs := ([wrap64 (rd l0 x9_2), rd t145 (ji36)] : List Int)) (inner := [.int .i64 (wrap64 (rd l0 x9_2)), .int .i64 (rd t145 (ji36))]) (ok := fun _ => True) (okp := fun _ => True) ?hr ?hp (fun _ hk => hk) trivial (Below.refl _ _) (Nat.le_refl _) (by simp) ?_; (case hd => rfl); (case hg => rfl); (case hr => first | (go_simp; done) | (go_simp; rfl)); (case hp => exact (Reps.one (show Kd.M (Kd.int .i64) _ _ _ (wrap64 (rd l0 x9_2)) [.int .i64 (wrap64 (rd l0 x9_2))] from rfl) (Reps.one (show Kd.M (Kd.int .i64) _ _ _ (rd t145 (ji36)) [.int .i64 (rd t145 (ji36))] from rfl) (Reps.none _ _))))
                 intro v168 w47 ho48 hb hg_ hnew_
                 have HS1_ := (hb.cell (World.block_lt_of_cell? _ _ (hHeld.2))).trans (hHeld.2)
                 clear hg_ hnew_
                 (first | rw [← Ny167.out] at ho48 | (simp only [Int.reduceToNat] at ho48; rw [← Ny167.out] at ho48))
                 have n0_ := Aside0.mk (Kd.R_below (by (with_reducible repeat (first | apply Kd.R_alloc | apply Kd.R_drewN | apply Kd.R_drew)); exact HO_5.out) hb)
                 have n1_ := Aside0.mk (Kd.R_elder' (by (with_reducible repeat (first | apply Kd.R_alloc | apply Kd.R_drewN | apply Kd.R_drew)); exact HO_6.out) (Kd.R_base ho48) hb)
                 have n2_ := Aside0.mk (Kd.R_elder' (by (with_reducible repeat (first | apply Kd.R_alloc | apply Kd.R_drewN | apply Kd.R_drew)); exact HO_8.out) (Kd.R_base ho48) hb)
                 have n3_ := Aside0.mk (Kd.R_lower (Kd.R_new' (Kd.R_new' ho48 (Kd.R_lt (by (with_reducible repeat (first | apply Kd.R_alloc | apply Kd.R_drewN | apply Kd.R_drew)); exact HO_6.out))) (Kd.R_lt (by (with_reducible repeat (first | apply Kd.R_alloc | apply Kd.R_drewN | apply Kd.R_drew)); exact HO_8.out))) (below_size (bh_ HB)))
                 have n4_ := bs_ HB hb
                 clear HO_5
                 clear HO_6
                 clear HO_8
                 clear HB
                 have HO_5 := n0_
                 have HO_6 := n1_
                 have HO_8 := n2_
                 have HO169 := n3_
                 have HB := n4_
                 clear n0_ n1_ n2_ n3_ n4_
                 clear hb ho48
                 obtain ⟨Ao50, co50, eo50⟩ := Kd.R_slice HO169.out
                 (first | subst eo50 | (injection eo50 with f1_ f2_ f3_; have f4_ := f1_.symm; have f5_ := f3_.symm; clear f1_ f2_ f3_; subst f4_; subst f5_))
                 refine hK.out _ _ ⟨((HB.out.cell (World.block_lt_of_cell? w _ hw165_0)).trans hw165_0), HS1_⟩ (fun hHeld => ?_)
                 clear hK K
                 refine nm_ 76 ?_
                 refine last_ (i := 11) (N := some 77) #[true, true, true, true, true, true, true, true, true, true, true, true, false] rfl rfl (one_of HT_.out (by kernel_rfl)) (by decide) (fun K hK => ?_)
                 refine Kd.R_append_rows_step (Kd.int .i64) (w0 := w) w.heap.size (by rfl) (.tmp 66) (.tmp 76) 29 3 (.int .i64 0) 8 rfl Tryd.underlying29 info3 rfl (by decide) (by omega) u8 x8_2 y167 _ _ _ (fun k_ => some k_ ≠ (.slice (some ad166) t145.length co46 : Value).ownBlock ∧ some k_ ≠ (.slice Ao50 y167.length co50 : Value).ownBlock) (fun _ => False) rfl rfl ?aO ?aR (fun _ _ h => h) (fun _ h => h.elim) ?aF ?aB ?aS ?aL ?_
                 (case aR => repeat (first | exact (Kd.R_reads' HO169.out).2.2 | (with_reducible refine Kd.C_alloc ?_ _) | (with_reducible refine Kd.C_drewN ?_ _) | (with_reducible refine Kd.C_drew ?_)))
                 (case aB => exact (bh_ HB))
                 (case aF => exact (fun k_ hk => ⟨Kd.fresh' (Kd.R_lt (by (with_reducible repeat (first | apply Kd.R_alloc | apply Kd.R_drewN | apply Kd.R_drew)); exact HO_6.out)) k_ hk, Kd.fresh' (Kd.R_lt (by (with_reducible repeat (first | apply Kd.R_alloc | apply Kd.R_drewN | apply Kd.R_drew)); exact HO169.out)) k_ hk⟩))
                 (case aO => exact (by (with_reducible repeat (first | apply Kd.R_alloc | apply Kd.R_drewN | apply Kd.R_drew)); exact HO_8.out))
                 (case aS => exact (below_size (bh_ HB)))
                 (case aL => have := LMc41.out; omega)
                 intro v171 w49 ho hb hg hat
                 rw [← Ny170.out] at ho
                 have n0_ := Aside0.mk (Kd.R_over' (by (with_reducible repeat (first | apply Kd.R_alloc | apply Kd.R_drewN | apply Kd.R_drew)); exact HO_5.out) (Kd.R_typed (by (with_reducible repeat (first | apply Kd.R_alloc | apply Kd.R_drewN | apply Kd.R_drew)); exact HO_8.out)) (by decide) hg)
                 have n1_ := Aside0.mk (Kd.R_after (ok := (fun k_ => some k_ ≠ (.slice Ao50 y167.length co50 : Value).ownBlock)) (by (with_reducible repeat (first | apply Kd.R_alloc | apply Kd.R_drewN | apply Kd.R_drew)); exact Kd.R_mono HO_6.out (fun _ hk => ⟨hk.2, hk.1⟩)) hg hat)
                 have n2_ := Aside0.mk (Kd.R_after (ok := (fun k_ => some k_ ≠ (.slice (some ad166) t145.length co46 : Value).ownBlock)) (by (with_reducible repeat (first | apply Kd.R_alloc | apply Kd.R_drewN | apply Kd.R_drew)); exact Kd.R_mono HO169.out (fun _ hk => ⟨hk.1.2, hk.2⟩)) hg hat)
                 have n3_ := Aside0.mk (hb)
                 have n4_ := Aside0.mk (ho)
                 clear HO_5
                 clear HO_6
                 clear HO169
                 clear HB
                 clear HO_8
                 have HO_5 := n0_
                 have HO_6 := n1_
                 have HO169 := n2_
                 have HB := n3_
                 have HO172 := n4_
                 clear n0_ n1_ n2_ n3_ n4_
                 clear ho hb hg hat
                 refine hK.out _ _ ?_
                 clear hK K
                 refine nm_ 77 ?_
                 refine pu_ 12 8 (lb_ 13 8191) rfl rfl (ao_ HT_) ?_
                 refine done_ (done_of HT_.out (by kernel_rfl)) ?_
                 try go_wp2
                 go_roundg k2
                 case measure => have := HJ2.out; have := HK2.out; omega
                 case rel => exact ⟨((x7_2 ++ t163) ++ (rdOf ByteArray.empty t144 (ji36))), (y170), (wrap64 (x9_2 + 1)), (by first | rfl | (simp; done) | (simp only [← hji36] <;> (first | rfl | simp)) | (simp [*]; done)), (by first | rfl | (simp; done) | (simp [*]; done)), H', ⟨by have := HJ2.out; have := HK2.out; omega⟩, ⟨by (with_reducible repeat (first | apply Kd.R_alloc | apply Kd.R_drewN | apply Kd.R_drew)); exact HO_5.out⟩, ⟨by (with_reducible repeat (first | apply Kd.R_alloc | apply Kd.R_drewN | apply Kd.R_drew)); exact Kd.R_mono HO_6.out (fun _ hk => hk.2)⟩, ⟨by (with_reducible repeat (first | apply Kd.R_alloc | apply Kd.R_drewN | apply Kd.R_drew)); exact Kd.R_mono HO172.out (fun _ hk => hk.1)⟩, ⟨bh_ HB⟩⟩
                ·rw [if_neg c41] at H
                 exact absurd H (by simp)
               ·rw [if_neg c40] at H
                exact absurd H (by simp)
              ·rw [if_neg c39] at H
               exact absurd H (by simp)
             ·rw [if_neg c38] at H
              exact absurd H (by simp)
            ·rw [if_neg c37] at H
             exact absurd H (by simp)
           ·rw [if_neg c35] at H
            exact absurd H (by simp)
        ·rw [if_neg c13] at H
         exact absurd H (by simp)
       ·rw [if_neg c12] at H
        exact absurd H (by simp)
      ·rw [if_neg c11] at H
       have c11b0 : decide (x9_2 < (l0.length : Int)) = false := decide_eq_false c11
       clear c11
       replace H := Option.bind_eq_some_iff.mp H
       obtain ⟨⟨t173, t174⟩, A510, H⟩ := H
       replace H : ((off_Mul.f k2 x8_2).bind fun bt175 => (if t173 = bt175.1 then (if (t174 == bt175.2) = true then ((salvorlaw2_NumRuns.f k2).bind fun t177 => (some t177)) else (some false)) else (some false))) = some r := H
       have A51 := Aside0.mk A510
       clear A510
       replace H := Option.bind_eq_some_iff.mp H
       obtain ⟨⟨t175, t176⟩, A520, H⟩ := H
       replace H : (if t173 = t175 then (if (t174 == t176) = true then ((salvorlaw2_NumRuns.f k2).bind fun t177 => (some t177)) else (some false)) else (some false)) = some r := H
       have A52 := Aside0.mk A520
       clear A520
       by_cases c53 : t173 = t175
       ·rw [if_pos c53] at H
        have c53b0 : (t173 == t175) = true := beq_iff_eq.mpr c53
        have c53b1 : (t173 != t175) = false := bne_eq_false_iff_eq.mpr c53
        clear c53
        by_cases c54 : (t174 == t176) = true
        ·rw [if_pos c54] at H
         have c54b0 : (t174 == t176) = true := c54
         (try (have c54b1 : decide (t174 = t176) = true := by simpa using c54))
         (try (have c54b2 : (t174 == t176) = true := by simpa using c54))
         clear c54
         replace H := Option.bind_eq_some_iff.mp H
         obtain ⟨t177, A550, H⟩ := H
         replace H : (some t177) = some r := H
         have A55 := Aside0.mk A550
         clear A550
         obtain rfl := Option.some.inj H
         go_wp2_with (first | ((with_reducible refine gate_callee (f := 9) rfl ?_); refine gl_ (some 80) rfl rfl Tryd.func9 (by kernel_rfl) rfl #[.string x7_2] rfl ?_; (with_reducible refine (num_Get.calls k2 x7_2 t173 t174 _ A51.out ?tb6_).mono ?_); (case tb6_ => exact tb_ HTAB HB); rintro e w56 ⟨rfl, hb⟩; refine ⟨_, rfl, ?_⟩; have n0_ := Aside0.mk (Kd.R_below (by (with_reducible repeat (first | apply Kd.R_alloc | apply Kd.R_drewN | apply Kd.R_drew)); exact HO_5.out) hb); have n1_ := Aside0.mk (Kd.R_below (by (with_reducible repeat (first | apply Kd.R_alloc | apply Kd.R_drewN | apply Kd.R_drew)); exact HO_6.out) hb); have n2_ := Aside0.mk (Kd.R_below (by (with_reducible repeat (first | apply Kd.R_alloc | apply Kd.R_drewN | apply Kd.R_drew)); exact HO_8.out) hb); have n3_ := bs_ HB hb; clear HO_5; clear HO_6; clear HO_8; clear HB; have HO_5 := n0_; have HO_6 := n1_; have HO_8 := n2_; have HB := n3_; clear n0_ n1_ n2_ n3_; (try clear hb); obtain ⟨Ao57, co57, eo57⟩ := Kd.R_slice HO_8.out; subst eo57) | ((with_reducible refine gate_callee (f := 14) rfl ?_); refine gl_ (some 85) rfl rfl Tryd.func14 (by kernel_rfl) rfl #[.slice Ao57 x8_2.length co57] rfl ?_; (with_reducible refine (off_Mul.calls k2 _ _ x8_2 t175 t176 _ ?side1 ?side2 A52.out).mono ?_); (case side1 => repeat (first | exact (Kd.R_reads' HO_8.out).2.2 | (with_reducible refine Kd.C_alloc ?_ _) | (with_reducible refine Kd.C_drewN ?_ _) | (with_reducible refine Kd.C_drew ?_))); (case side2 => exact (Kd.R_reads' HO_8.out).2.1); rintro e w' ⟨rfl, ⟨nd, rfl⟩⟩; refine ⟨_, rfl, ?_⟩) | (go_at_call 3; (with_reducible refine (salvorlaw2_NumRuns.calls k2  t177 _ A55.out ?tb8_).mono ?_); (case tb8_ => exact tb_ HTAB HB); rintro e w58 ⟨rfl, hb⟩; have n0_ := Aside0.mk (Kd.R_below (by (with_reducible repeat (first | apply Kd.R_alloc | apply Kd.R_drewN | apply Kd.R_drew)); exact HO_5.out) hb); have n1_ := Aside0.mk (Kd.R_below (by (with_reducible repeat (first | apply Kd.R_alloc | apply Kd.R_drewN | apply Kd.R_drew)); exact HO_6.out) hb); have n2_ := Aside0.mk (Kd.R_below (by (with_reducible repeat (first | apply Kd.R_alloc | apply Kd.R_drewN | apply Kd.R_drew)); exact HO_8.out) hb); have n3_ := bs_ HB hb; clear HO_5; clear HO_6; clear HO_8; clear HB; have HO_5 := n0_; have HO_6 := n1_; have HO_8 := n2_; have HB := n3_; clear n0_ n1_ n2_ n3_; (try clear hb)))
         go_ret
         exact ⟨by first | rfl | (simp [errW_none, errW_some] <;> rfl) | (simp [*, errW_none, errW_some] <;> rfl), bh_ HB⟩
        ·rw [if_neg c54] at H
         have c54b0 : (t174 == t176) = false := by simpa using c54
         (try (have c54b1 : decide (t174 = t176) = false := by simpa using c54))
         (try (have c54b2 : (t174 == t176) = false := by simpa using c54))
         (try (have c54b3 : ¬ (t174 = t176) := by simpa using c54))
         clear c54
         exact absurd ((Option.some.inj H).trans HT.out) (by simp)
       ·rw [if_neg c53] at H
        have c53b0 : (t173 == t175) = false := beq_eq_false_iff_ne.mpr c53
        have c53b1 : (t173 != t175) = true := bne_iff_ne.mpr c53
        exact absurd ((Option.some.inj H).trans HT.out) (by simp)

end Go.Proofs.YtalcenfcknmchaaDoor.P
