/- Laid by a program of this session's own (wip/wprint.py, over the kit's print.py): functions of the given program as plain Lean functions, and that the program's calls come to their answers. -/
import Derived.Test.YtbmhfnncagncmaaDoorPx0
import Derived.Test.YtbmhfnncagncmaaDoorPx11
import Derived.Test.YtbmhfnncagncmaaDoorPx14
import Derived.Test.YtbmhfnncagncmaaDoorPx15
namespace Go.Proofs.YtbmhfnncagncmaaDoor.P
open Go.RowKit Go.Proofs.YtbmhfnncagncmaaDoorW.PrintWords Go.Proofs.YtbmhfnncagncmaaDoorW.PrintLast Go.Proofs.YtbmhfnncagncmaaDoorW.PrintMore
attribute [local go_sem] max2_int min2_int max_two min_two max_three min_three max_four min_four   -- for this text's walks alone
set_option linter.unusedVariables false
set_option linter.unusedSimpArgs false

/-! ### num_part: function 51 -/
mutual
def num_part.j1 : Nat → ByteArray → Int → Option (Int × Bool)
 | 0, _, _ => none
 | k + 1, x0, x4 => if 0 ≤ x4 then (if x4 ≤ (x0.size : Int) then ((num_digits.f (x0.extract 0 (x4 : Int).toNat) 10 19).bind fun bt129 => ((num_times.f (x0.extract (x4 : Int).toNat x0.size)).bind fun bt131 => (if bt129.2 = true then (if bt131.2 = true then ((off_Mul.f k (([bt129.1, bt131.1] : List Int))).bind fun bt136 => (some (bt136.1, bt136.2))) else (some (0, false))) else (some (0, false))))) else (none)) else (none)
def num_part.l0 : Nat → ByteArray → Int → Option (Int × Bool)
 | 0, _, _ => none
 | k + 1, x0, x4 => if x4 < (x0.size : Int) then (if 0 ≤ x4 then (if (bt x0 x4) ≥ 48 then (if (bt x0 x4) ≤ 57 then (num_part.l0 k x0 (wrap64 (x4 + 1))) else (num_part.j1 k x0 x4)) else (num_part.j1 k x0 x4)) else (none)) else (num_part.j1 k x0 x4)
end
def num_part.f (k : Nat) (a0 : ByteArray) : Option (Int × Bool) := num_part.l0 k a0 0
theorem num_part.mono_l : ∀ k, (∀ y0 y1, LeO (num_part.j1 k y0 y1) (num_part.j1 (k + 1) y0 y1)) ∧ (∀ y0 y1, LeO (num_part.l0 k y0 y1) (num_part.l0 (k + 1) y0 y1))
 | 0 => ⟨fun _ _ r h => by simp [num_part.j1] at h, fun _ _ r h => by simp [num_part.l0] at h⟩
 | k + 1 => by
  obtain ⟨ih0, ih1⟩ := num_part.mono_l k
  refine ⟨?_, ?_⟩
  ·intro y0 y1
   unfold num_part.j1
   repeat' first
   | (with_reducible exact ih0 _ _)
   | (with_reducible exact ih1 _ _)
   | (with_reducible exact off_Mul.mono _ _)
   | (with_reducible exact LeO.refl _)
   | (with_reducible exact LeO.none _)
   | (with_reducible refine LeO.ite ?_ ?_)
   | (with_reducible refine LeO.bind ?_ (fun _ => ?_))
   | exact ih0 _ _
   | exact ih1 _ _
   | exact off_Mul.mono _ _
   | exact LeO.none _
   | refine LeO.ite ?_ ?_
   | refine LeO.bind ?_ (fun _ => ?_)
  ·intro y0 y1
   unfold num_part.l0
   repeat' first
   | (with_reducible exact ih0 _ _)
   | (with_reducible exact ih1 _ _)
   | (with_reducible exact off_Mul.mono _ _)
   | (with_reducible exact LeO.refl _)
   | (with_reducible exact LeO.none _)
   | (with_reducible refine LeO.ite ?_ ?_)
   | (with_reducible refine LeO.bind ?_ (fun _ => ?_))
   | exact ih0 _ _
   | exact ih1 _ _
   | exact off_Mul.mono _ _
   | exact LeO.none _
   | refine LeO.ite ?_ ?_
   | refine LeO.bind ?_ (fun _ => ?_)
theorem num_part.mono : ∀ a0 k, LeO (num_part.f k a0) (num_part.f (k + 1) a0) := by
 intro a0 k
 obtain ⟨ih0, ih1⟩ := num_part.mono_l k
 unfold num_part.f
 repeat' first
   | (with_reducible exact ih0 _ _)
   | (with_reducible exact ih1 _ _)
   | (with_reducible exact off_Mul.mono _ _)
   | (with_reducible exact LeO.refl _)
   | (with_reducible exact LeO.none _)
   | (with_reducible refine LeO.ite ?_ ?_)
   | (with_reducible refine LeO.bind ?_ (fun _ => ?_))
   | exact ih0 _ _
   | exact ih1 _ _
   | exact off_Mul.mono _ _
   | exact LeO.none _
   | refine LeO.ite ?_ ?_
   | refine LeO.bind ?_ (fun _ => ?_)
set_option maxHeartbeats 8000000 in
set_option maxRecDepth 100000 in
theorem num_part.calls (k : Nat) (a0 : ByteArray) (r1 : Int) (r2 : Bool) (w : World) (h : num_part.f k a0 = some (r1, r2)) (htab : TabAt w) :
  Calls Tryd.prog 51 #[.string a0] w fun e w' => e = .returned (.tuple #[.int .i64 r1, .bool r2]) ∧ Below w.heap.size w w' := by
 have HTAB := Aside0.mk htab
 clear htab
 have HB := Aside0.mk (Below.refl w.heap.size w)
 have H : (num_part.l0 k a0 0) = some (r1, r2) := h
 clear h
 have HC2 := Aside0.mk H
 clear H
 go_enter Tryd.func51, Tryd.ntmps51
 go_upto_block 0 with (fail)
 go_cut [4] (fun v4 wc => ∃ (kq : Nat) (x4_1 : Int), v4 = .int .i64 x4_1 ∧ Aside0 (num_part.j1 kq a0 x4_1 = some (r1, r2)) ∧ Aside0 (kq ≤ k) ∧ Aside0 (Below w.heap.size w wc))
 case first =>
  have H := HC2.out
  clear HC2
  have H' := Aside0.mk H
  clear H
  go_wp2
  go_loopg [4] k (fun kq v4 w' => ∃ (x4_1 : Int), v4 = .int .i64 x4_1 ∧ Aside0 (num_part.l0 kq a0 x4_1 = some (r1, r2)) ∧ Aside0 (kq ≤ k) ∧ Aside0 (Below w.heap.size w w'))
  case atStart => exact ⟨(0), (by first | rfl | (simp; done) | (simp [*]; done)), H', ⟨Nat.le_refl _⟩, ⟨bh_ HB⟩⟩
  case round =>
   clear H'
   try clear p2
   obtain ⟨x4_1, rfl, HA, HK1, HB⟩ := hrel
   cases gk with
   | zero => exact absurd HA.out (by simp [num_part.l0])
   | succ k1 =>
    have H := HA.out
    clear HA
    simp only [num_part.l0] at H
    by_cases c3 : x4_1 < (a0.size : Int)
    ·rw [if_pos c3] at H
     have c3b0 : decide (x4_1 < (a0.size : Int)) = true := decide_eq_true c3
     clear c3
     (first | rw [c3b0] | (simp only [i64_w, i32_w]; rw [c3b0]) | skip)
     by_cases c4 : 0 ≤ x4_1
     ·rw [if_pos c4] at H
      have c4b0 : decide (0 ≤ x4_1) = true := decide_eq_true c4
      clear c4
      by_cases c6 : (bt a0 x4_1) ≥ 48
      ·rw [if_pos c6] at H
       have c6b0 : decide (48 ≤ (bt a0 x4_1)) = true := decide_eq_true c6
       clear c6
       by_cases c8 : (bt a0 x4_1) ≤ 57
       ·rw [if_pos c8] at H
        have c8b0 : decide ((bt a0 x4_1) ≤ 57) = true := decide_eq_true c8
        clear c8
        have H' := Aside0.mk H
        clear H
        have p5 : 0 ≤ (x4_1 : Int) := of_decide_eq_true (by first | (with_reducible assumption) | assumption)
        have q5 : x4_1 < (a0.size : Int) := of_decide_eq_true (by first | (with_reducible assumption) | assumption)
        have hx5 := bt_at a0 x4_1
        replace p5 := eq_true p5
        replace q5 := eq_true q5
        have p7 : 0 ≤ (x4_1 : Int) := of_decide_eq_true (by first | (with_reducible assumption) | assumption)
        have q7 : x4_1 < (a0.size : Int) := of_decide_eq_true (by first | (with_reducible assumption) | assumption)
        have hx7 := bt_at a0 x4_1
        replace p7 := eq_true p7
        replace q7 := eq_true q7
        go_wp2
        go_roundg k1
        case measure => have := HK1.out; omega
        case rel => exact ⟨(wrap64 (x4_1 + 1)), (by first | rfl | (simp; done) | (simp [*]; done)), H', ⟨by have := HK1.out; omega⟩, ⟨bh_ HB⟩⟩
       ·rw [if_neg c8] at H
        have c8b0 : decide ((bt a0 x4_1) ≤ 57) = false := decide_eq_false c8
        clear c8
        have H' := Aside0.mk H
        clear H
        have p5 : 0 ≤ (x4_1 : Int) := of_decide_eq_true (by first | (with_reducible assumption) | assumption)
        have q5 : x4_1 < (a0.size : Int) := of_decide_eq_true (by first | (with_reducible assumption) | assumption)
        have hx5 := bt_at a0 x4_1
        replace p5 := eq_true p5
        replace q5 := eq_true q5
        have p7 : 0 ≤ (x4_1 : Int) := of_decide_eq_true (by first | (with_reducible assumption) | assumption)
        have q7 : x4_1 < (a0.size : Int) := of_decide_eq_true (by first | (with_reducible assumption) | assumption)
        have hx7 := bt_at a0 x4_1
        replace p7 := eq_true p7
        replace q7 := eq_true q7
        go_wp2
        go_meet
        case rel => exact ⟨_, (x4_1), (by first | rfl | (simp; done) | (simp [*]; done)), H', ⟨by have := HK1.out; first | omega | exact Nat.le_refl _⟩, ⟨bh_ HB⟩⟩
      ·rw [if_neg c6] at H
       have c6b0 : decide (48 ≤ (bt a0 x4_1)) = false := decide_eq_false c6
       clear c6
       have H' := Aside0.mk H
       clear H
       have p5 : 0 ≤ (x4_1 : Int) := of_decide_eq_true (by first | (with_reducible assumption) | assumption)
       have q5 : x4_1 < (a0.size : Int) := of_decide_eq_true (by first | (with_reducible assumption) | assumption)
       have hx5 := bt_at a0 x4_1
       replace p5 := eq_true p5
       replace q5 := eq_true q5
       go_wp2
       go_meet
       case rel => exact ⟨_, (x4_1), (by first | rfl | (simp; done) | (simp [*]; done)), H', ⟨by have := HK1.out; first | omega | exact Nat.le_refl _⟩, ⟨bh_ HB⟩⟩
     ·rw [if_neg c4] at H
      exact absurd H (by simp)
    ·rw [if_neg c3] at H
     have c3b0 : decide (x4_1 < (a0.size : Int)) = false := decide_eq_false c3
     clear c3
     (first | rw [c3b0] | (simp only [i64_w, i32_w]; rw [c3b0]) | skip)
     have H' := Aside0.mk H
     clear H
     go_wp2
     go_meet
     case rel => exact ⟨_, (x4_1), (by first | rfl | (simp; done) | (simp [*]; done)), H', ⟨by have := HK1.out; first | omega | exact Nat.le_refl _⟩, ⟨bh_ HB⟩⟩
 case rest =>
  clear HC2
  try clear p2
  try clear c3
  try clear c3b0
  try clear c4
  try clear c4b0
  try clear c5
  try clear p5
  try clear q5
  try clear hx5
  try clear c6
  try clear c6b0
  try clear p6
  try clear p7
  try clear q7
  try clear hx7
  try clear c8
  try clear c8b0
  try clear p2
  try clear p5
  try clear p7
  try clear q5
  try clear q7
  obtain ⟨kq, x4_1, rfl, HA, HJ1, HB⟩ := hcut
  cases kq with
  | zero => exact absurd HA.out (by simp [num_part.j1])
  | succ kj1 =>
   have H := HA.out
   clear HA
   simp only [num_part.j1] at H
   by_cases c9 : 0 ≤ x4_1
   ·rw [if_pos c9] at H
    have c9b0 := eq_true c9
    have c9b1 : decide (0 ≤ x4_1) = true := decide_eq_true c9
    clear c9
    by_cases c10 : x4_1 ≤ (a0.size : Int)
    ·rw [if_pos c10] at H
     have c10b0 := eq_true c10
     have c10b1 : decide (x4_1 ≤ (a0.size : Int)) = true := decide_eq_true c10
     clear c10
     replace H := Option.bind_eq_some_iff.mp H
     obtain ⟨⟨t129, t130⟩, A110, H⟩ := H
     replace H : ((num_times.f (a0.extract (x4_1 : Int).toNat a0.size)).bind fun bt131 => (if t130 = true then (if bt131.2 = true then ((off_Mul.f kj1 (([t129, bt131.1] : List Int))).bind fun bt136 => (some (bt136.1, bt136.2))) else (some (0, false))) else (some (0, false)))) = some (r1, r2) := H
     have A11 := Aside0.mk A110
     clear A110
     have c12b0 := eq_true (of_decide_eq_true (by first | (with_reducible assumption) | assumption) : 0 ≤ x4_1)
     have c13b0 := eq_true (of_decide_eq_true (by first | (with_reducible assumption) | assumption) : x4_1 ≤ (a0.size : Int))
     replace H := Option.bind_eq_some_iff.mp H
     obtain ⟨⟨t131, t132⟩, A140, H⟩ := H
     replace H : (if t130 = true then (if t132 = true then ((off_Mul.f kj1 (([t129, t131] : List Int))).bind fun bt136 => (some (bt136.1, bt136.2))) else (some (0, false))) else (some (0, false))) = some (r1, r2) := H
     have A14 := Aside0.mk A140
     clear A140
     by_cases c15 : t130 = true
     ·subst c15
      have H1 : (if t132 = true then ((off_Mul.f kj1 (([t129, t131] : List Int))).bind fun bt136 => (some (bt136.1, bt136.2))) else (some (0, false))) = some (r1, r2) := by rw [if_pos rfl] at H; exact H
      clear H
      have H := H1
      clear H1
      by_cases c16 : t132 = true
      ·subst c16
       have H1 : ((off_Mul.f kj1 (([t129, t131] : List Int))).bind fun bt136 => (some (bt136.1, bt136.2))) = some (r1, r2) := by rw [if_pos rfl] at H; exact H
       clear H
       have H := H1
       clear H1
       obtain ⟨y133, hy133⟩ : ∃ y_ : List Int, y_ = (([t129, t131] : List Int)) := ⟨_, rfl⟩
       replace H : ((off_Mul.f kj1 y133).bind fun bt136 => (some (bt136.1, bt136.2))) = some (r1, r2) := by first | (rw [hy133]; with_reducible exact H) | (have H2_ := (Option.bind_some _ _).symm.trans H; rw [hy133]; with_reducible exact H2_) | (have H2_ := (Option.bind_some _ _).symm.trans H; with_reducible exact H2_) | with_reducible exact H | (rw [hy133]; exact H) | exact H
       have Ny133 := Aside0.mk hy133
       clear hy133
       replace H := Option.bind_eq_some_iff.mp H
       obtain ⟨⟨t136, t137⟩, A170, H⟩ := H
       replace H : (some (t136, t137)) = some (r1, r2) := H
       have A17 := Aside0.mk A170
       clear A170
       simp only [Option.some.injEq, Prod.mk.injEq] at H
       obtain ⟨rfl, rfl⟩ := H
       go_wp2_with (first | ((with_reducible refine gate_callee (f := 58) rfl ?_); refine gl_ (some 31) rfl rfl Tryd.func58 (by kernel_rfl) rfl #[.string (a0.extract 0 (x4_1 : Int).toNat), .int .i64 10, .int .i64 19] rfl ?_; (with_reducible refine (num_digits.calls (a0.extract 0 (x4_1 : Int).toNat) 10 19 t129 true _ A11.out ?tb0_).mono ?_); (case tb0_ => exact tb_ HTAB HB); rintro e w18 ⟨rfl, hb⟩; refine ⟨_, rfl, ?_⟩; replace HB := bs_ HB hb; (try clear hb)) | ((with_reducible refine gate_callee (f := 59) rfl ?_); refine gl_ (some 38) rfl rfl Tryd.func59 (by kernel_rfl) rfl #[.string (a0.extract (x4_1 : Int).toNat a0.size)] rfl ?_; (with_reducible refine (num_times.calls (a0.extract (x4_1 : Int).toNat a0.size) t131 true _ A14.out).mono ?_); rintro e w' ⟨rfl, ⟨nd, rfl⟩⟩; refine ⟨_, rfl, ?_⟩) | ((with_reducible refine gate_dst (N := 49) rfl ?_); refine Kd.R_lit (Kd.int .i64) _ 3 ?hg (N := 49) ?hd (xs := ([t129, t131] : List Int)) (inner := [.int .i64 t129, .int .i64 t131]) (ok := fun _ => True) (okp := fun _ => True) ?hr ?hp (fun _ hk => hk) trivial (Below.refl _ _) (Nat.le_refl _) (by simp) ?_; (case hd => rfl); (case hg => rfl); (case hr => first | (go_simp; done) | (go_simp; rfl)); (case hp => exact (Reps.one (show Kd.M (Kd.int .i64) _ _ _ t129 [.int .i64 t129] from rfl) (Reps.one (show Kd.M (Kd.int .i64) _ _ _ t131 [.int .i64 t131] from rfl) (Reps.none _ _)))); intro v134 w19 ho20 hb hg_ hnew_; clear hg_ hnew_; (first | rw [← Ny133.out] at ho20 | (simp only [Int.reduceToNat] at ho20; rw [← Ny133.out] at ho20)); have HO135 := Aside0.mk (Kd.R_lower ho20 (below_size (bh_ HB))); replace HB := bs_ HB hb; clear hb ho20; obtain ⟨Ao21, co21, eo21⟩ := Kd.R_slice HO135.out; subst eo21) | ((with_reducible refine gate_callee (f := 32) rfl ?_); refine gl_ (some 50) rfl rfl Tryd.func32 (by kernel_rfl) rfl #[.slice Ao21 y133.length co21] rfl ?_; (with_reducible refine (off_Mul.calls kj1 _ _ y133 t136 t137 _ ?side1 ?side2 A17.out).mono ?_); (case side1 => repeat (first | exact (Kd.R_reads' HO135.out).2.2 | (with_reducible refine Kd.C_alloc ?_ _) | (with_reducible refine Kd.C_drewN ?_ _) | (with_reducible refine Kd.C_drew ?_))); (case side2 => exact (Kd.R_reads' HO135.out).2.1); rintro e w' ⟨rfl, ⟨nd, rfl⟩⟩; refine ⟨_, rfl, ?_⟩))
       go_ret2
       exact ⟨by first | rfl | (simp [errW_none, errW_some] <;> rfl) | (simp [*, errW_none, errW_some] <;> rfl), bh_ HB⟩
      ·replace c16 := Bool.eq_false_iff.mpr c16
       subst c16
       have H1 : (some (0, false)) = some (r1, r2) := by rw [if_neg (show ¬ (false = true) by decide)] at H; exact H
       clear H
       have H := H1
       clear H1
       simp only [Option.some.injEq, Prod.mk.injEq] at H
       obtain ⟨rfl, rfl⟩ := H
       go_wp2_with (first | ((with_reducible refine gate_callee (f := 58) rfl ?_); refine gl_ (some 31) rfl rfl Tryd.func58 (by kernel_rfl) rfl #[.string (a0.extract 0 (x4_1 : Int).toNat), .int .i64 10, .int .i64 19] rfl ?_; (with_reducible refine (num_digits.calls (a0.extract 0 (x4_1 : Int).toNat) 10 19 t129 true _ A11.out ?tb2_).mono ?_); (case tb2_ => exact tb_ HTAB HB); rintro e w22 ⟨rfl, hb⟩; refine ⟨_, rfl, ?_⟩; replace HB := bs_ HB hb; (try clear hb)) | ((with_reducible refine gate_callee (f := 59) rfl ?_); refine gl_ (some 38) rfl rfl Tryd.func59 (by kernel_rfl) rfl #[.string (a0.extract (x4_1 : Int).toNat a0.size)] rfl ?_; (with_reducible refine (num_times.calls (a0.extract (x4_1 : Int).toNat a0.size) t131 false _ A14.out).mono ?_); rintro e w' ⟨rfl, ⟨nd, rfl⟩⟩; refine ⟨_, rfl, ?_⟩))
       go_ret2
       exact ⟨by first | rfl | (simp [errW_none, errW_some] <;> rfl) | (simp [*, errW_none, errW_some] <;> rfl), bh_ HB⟩
     ·replace c15 := Bool.eq_false_iff.mpr c15
      subst c15
      have H1 : (some (0, false)) = some (r1, r2) := by rw [if_neg (show ¬ (false = true) by decide)] at H; exact H
      clear H
      have H := H1
      clear H1
      simp only [Option.some.injEq, Prod.mk.injEq] at H
      obtain ⟨rfl, rfl⟩ := H
      go_wp2_with (first | ((with_reducible refine gate_callee (f := 58) rfl ?_); refine gl_ (some 31) rfl rfl Tryd.func58 (by kernel_rfl) rfl #[.string (a0.extract 0 (x4_1 : Int).toNat), .int .i64 10, .int .i64 19] rfl ?_; (with_reducible refine (num_digits.calls (a0.extract 0 (x4_1 : Int).toNat) 10 19 t129 false _ A11.out ?tb4_).mono ?_); (case tb4_ => exact tb_ HTAB HB); rintro e w23 ⟨rfl, hb⟩; refine ⟨_, rfl, ?_⟩; replace HB := bs_ HB hb; (try clear hb)) | ((with_reducible refine gate_callee (f := 59) rfl ?_); refine gl_ (some 38) rfl rfl Tryd.func59 (by kernel_rfl) rfl #[.string (a0.extract (x4_1 : Int).toNat a0.size)] rfl ?_; (with_reducible refine (num_times.calls (a0.extract (x4_1 : Int).toNat a0.size) t131 t132 _ A14.out).mono ?_); rintro e w' ⟨rfl, ⟨nd, rfl⟩⟩; refine ⟨_, rfl, ?_⟩))
      go_ret2
      exact ⟨by first | rfl | (simp [errW_none, errW_some] <;> rfl) | (simp [*, errW_none, errW_some] <;> rfl), bh_ HB⟩
    ·rw [if_neg c10] at H
     exact absurd H (by simp)
   ·rw [if_neg c9] at H
    exact absurd H (by simp)

end Go.Proofs.YtbmhfnncagncmaaDoor.P
