/- Laid by a program of this session's own (wip/wprint.py, over the kit's print.py): functions of the given program as plain Lean functions, and that the program's calls come to their answers. -/
import Derived.Test.YtlginoicaeonhaaDoorPx0
import Derived.Test.YtlginoicaeonhaaDoorPx8
import Derived.Test.YtlginoicaeonhaaDoorPx9
import Derived.Test.YtlginoicaeonhaaDoorPx12
import Derived.Test.YtlginoicaeonhaaDoorPx13
namespace Go.Proofs.YtlginoicaeonhaaDoor.P
open Go.RowKit Go.Proofs.YtlginoicaeonhaaDoorW.PrintWords Go.Proofs.YtlginoicaeonhaaDoorW.PrintLast Go.Proofs.YtlginoicaeonhaaDoorW.PrintMore
attribute [local go_sem] max2_int min2_int max_two min_two max_three min_three max_four min_four   -- for this text's walks alone
set_option linter.unusedVariables false
set_option linter.unusedSimpArgs false

/-! ### salvorlaw9_ArgKeys: function 8 -/
mutual
def salvorlaw9_ArgKeys.j0 : Nat → List ByteArray → Int → Bool → Option (Bool)
 | 0, _, _, _ => none
 | k + 1, x0, x1, x23 => if x23 = true then ((salvorlaw9_ArgRuns.f k).bind fun t322 => (some t322)) else (salvorlaw9_ArgKeys.l0 k x0 x1 (([(⟨#[105, 102]⟩ : ByteArray), (⟨#[111, 102]⟩ : ByteArray), (⟨#[98, 115]⟩ : ByteArray), (⟨#[99, 111, 110, 118]⟩ : ByteArray), (⟨#[105, 102, 108, 97, 103]⟩ : ByteArray), (⟨#[115, 107, 105, 112]⟩ : ByteArray), (⟨#[97, 98, 99, 100, 101, 102, 103, 104, 105, 106]⟩ : ByteArray), (⟨#[122]⟩ : ByteArray)] : List ByteArray)) ([] : List ByteArray) 0)
def salvorlaw9_ArgKeys.j2 : Nat → List ByteArray → Int → List ByteArray → List ByteArray → Option (Bool)
 | 0, _, _, _, _ => none
 | k + 1, x0, x1, x5, x6 => (arg_Operands.f k x6).bind fun bt331 => (if bt331.2 = true then (salvorlaw9_ArgKeys.j3 k x0 x1 x5 x6 bt331.1 ((bt331.1.length : Int) != (x6.length : Int))) else (salvorlaw9_ArgKeys.j3 k x0 x1 x5 x6 bt331.1 true))
def salvorlaw9_ArgKeys.j3 : Nat → List ByteArray → Int → List ByteArray → List ByteArray → List (S31) → Bool → Option (Bool)
 | 0, _, _, _, _, _, _ => none
 | k + 1, x0, x1, x5, x6, x8, x64 => if x64 = true then (some false) else (salvorlaw9_ArgKeys.l1 k x0 x1 x5 x6 x8 0)
def salvorlaw9_ArgKeys.l1 : Nat → List ByteArray → Int → List ByteArray → List ByteArray → List (S31) → Int → Option (Bool)
 | 0, _, _, _, _, _, _ => none
 | k + 1, x0, x1, x5, x6, x8, x10 => if x10 < (x8.length : Int) then (if 0 ≤ x10 then (if x10 < (x5.length : Int) then ((arg_Find.f x8 (rdOf ByteArray.empty x5 x10)).bind fun bt336 => (if bt336.2 = true then (if x10 < (x0.length : Int) then (if bt336.1.toList = (rdOf ByteArray.empty x0 x10).toList then (if ((rd_T31 x8 x10).f0).toList = (rdOf ByteArray.empty x5 x10).toList then (salvorlaw9_ArgKeys.l1 k x0 x1 x5 x6 x8 (wrap64 (x10 + 1))) else (some false)) else (some false)) else (none)) else (some false))) else (none)) else (none)) else (if (x6.length : Int) = 0 then ((salvorlaw9_ArgRuns.f k).bind fun t341 => (some t341)) else (if 0 ≤ (Int.tmod (wrap64 (x1)) (x6.length : Int)) then (if (Int.tmod (wrap64 (x1)) (x6.length : Int)) < (x6.length : Int) then (if x6.length < 8796093022208 then ((arg_Operands.f k (x6 ++ [rdOf ByteArray.empty x6 (Int.tmod (wrap64 (x1)) (x6.length : Int))])).bind fun bt346 => (if (Int.tmod (wrap64 (x1)) (x6.length : Int)) = 3 then (if (bt346.2 == true) = true then (if bt346.2 = true then (if (bt346.1.length : Int) = (wrap64 ((x6.length : Int) + 1)) then ((salvorlaw9_ArgRuns.f k).bind fun t350 => (some t350)) else (some false)) else (if (bt346.1.length : Int) = 0 then ((salvorlaw9_ArgRuns.f k).bind fun t351 => (some t351)) else (some false))) else (some false)) else (if (bt346.2 == ((Int.tmod (wrap64 (x1)) (x6.length : Int)) == 4)) = true then (if bt346.2 = true then (if (bt346.1.length : Int) = (wrap64 ((x6.length : Int) + 1)) then ((salvorlaw9_ArgRuns.f k).bind fun t352 => (some t352)) else (some false)) else (if (bt346.1.length : Int) = 0 then ((salvorlaw9_ArgRuns.f k).bind fun t353 => (some t353)) else (some false))) else (some false)))) else (none)) else (none)) else (none)))
def salvorlaw9_ArgKeys.l0 : Nat → List ByteArray → Int → List ByteArray → List ByteArray → Int → Option (Bool)
 | 0, _, _, _, _, _ => none
 | k + 1, x0, x1, x5, x6, x7 => if x7 < (x0.length : Int) then (if x7 < (x5.length : Int) then (if 0 ≤ x7 then (if (rdOf ByteArray.empty x5 x7).size + 1 ≤ 9223372036854775807 then (if ((rdOf ByteArray.empty x5 x7) ++ (⟨#[61]⟩ : ByteArray)).size + (rdOf ByteArray.empty x0 x7).size ≤ 9223372036854775807 then (if x6.length < 8796093022208 then (salvorlaw9_ArgKeys.l0 k x0 x1 x5 (x6 ++ [((rdOf ByteArray.empty x5 x7) ++ (⟨#[61]⟩ : ByteArray)) ++ (rdOf ByteArray.empty x0 x7)]) (wrap64 (x7 + 1))) else (none)) else (none)) else (none)) else (none)) else (salvorlaw9_ArgKeys.j2 k x0 x1 x5 x6)) else (salvorlaw9_ArgKeys.j2 k x0 x1 x5 x6)
end
def salvorlaw9_ArgKeys.f (k : Nat) (l0 : List ByteArray) (a1 : Int) : Option (Bool) := if (l0.length : Int) > 20 then (salvorlaw9_ArgKeys.j0 k l0 a1 true) else ((salvorlaw9_few.f k l0 20).bind fun t321 => (salvorlaw9_ArgKeys.j0 k l0 a1 (!t321)))
theorem salvorlaw9_ArgKeys.mono_l : ∀ k, (∀ y0 y1 y2, LeO (salvorlaw9_ArgKeys.j0 k y0 y1 y2) (salvorlaw9_ArgKeys.j0 (k + 1) y0 y1 y2)) ∧ (∀ y0 y1 y2 y3, LeO (salvorlaw9_ArgKeys.j2 k y0 y1 y2 y3) (salvorlaw9_ArgKeys.j2 (k + 1) y0 y1 y2 y3)) ∧ (∀ y0 y1 y2 y3 y4 y5, LeO (salvorlaw9_ArgKeys.j3 k y0 y1 y2 y3 y4 y5) (salvorlaw9_ArgKeys.j3 (k + 1) y0 y1 y2 y3 y4 y5)) ∧ (∀ y0 y1 y2 y3 y4 y5, LeO (salvorlaw9_ArgKeys.l1 k y0 y1 y2 y3 y4 y5) (salvorlaw9_ArgKeys.l1 (k + 1) y0 y1 y2 y3 y4 y5)) ∧ (∀ y0 y1 y2 y3 y4, LeO (salvorlaw9_ArgKeys.l0 k y0 y1 y2 y3 y4) (salvorlaw9_ArgKeys.l0 (k + 1) y0 y1 y2 y3 y4))
 | 0 => ⟨fun _ _ _ r h => by simp [salvorlaw9_ArgKeys.j0] at h, fun _ _ _ _ r h => by simp [salvorlaw9_ArgKeys.j2] at h, fun _ _ _ _ _ _ r h => by simp [salvorlaw9_ArgKeys.j3] at h, fun _ _ _ _ _ _ r h => by simp [salvorlaw9_ArgKeys.l1] at h, fun _ _ _ _ _ r h => by simp [salvorlaw9_ArgKeys.l0] at h⟩
 | k + 1 => by
  obtain ⟨ih0, ih1, ih2, ih3, ih4⟩ := salvorlaw9_ArgKeys.mono_l k
  refine ⟨?_, ?_, ?_, ?_, ?_⟩
  ·intro y0 y1 y2
   unfold salvorlaw9_ArgKeys.j0
   repeat' first
   | (with_reducible exact ih0 _ _ _)
   | (with_reducible exact ih1 _ _ _ _)
   | (with_reducible exact ih2 _ _ _ _ _ _)
   | (with_reducible exact ih3 _ _ _ _ _ _)
   | (with_reducible exact ih4 _ _ _ _ _)
   | (with_reducible exact arg_Operands.mono _ _)
   | (with_reducible exact salvorlaw9_ArgRuns.mono _)
   | (with_reducible exact salvorlaw9_few.mono _ _ _)
   | (with_reducible exact LeO.refl _)
   | (with_reducible exact LeO.none _)
   | (with_reducible refine LeO.ite ?_ ?_)
   | (with_reducible refine LeO.bind ?_ (fun _ => ?_))
   | exact ih0 _ _ _
   | exact ih1 _ _ _ _
   | exact ih2 _ _ _ _ _ _
   | exact ih3 _ _ _ _ _ _
   | exact ih4 _ _ _ _ _
   | exact arg_Operands.mono _ _
   | exact salvorlaw9_ArgRuns.mono _
   | exact salvorlaw9_few.mono _ _ _
   | exact LeO.none _
   | refine LeO.ite ?_ ?_
   | refine LeO.bind ?_ (fun _ => ?_)
  ·intro y0 y1 y2 y3
   unfold salvorlaw9_ArgKeys.j2
   repeat' first
   | (with_reducible exact ih0 _ _ _)
   | (with_reducible exact ih1 _ _ _ _)
   | (with_reducible exact ih2 _ _ _ _ _ _)
   | (with_reducible exact ih3 _ _ _ _ _ _)
   | (with_reducible exact ih4 _ _ _ _ _)
   | (with_reducible exact arg_Operands.mono _ _)
   | (with_reducible exact salvorlaw9_ArgRuns.mono _)
   | (with_reducible exact salvorlaw9_few.mono _ _ _)
   | (with_reducible exact LeO.refl _)
   | (with_reducible exact LeO.none _)
   | (with_reducible refine LeO.ite ?_ ?_)
   | (with_reducible refine LeO.bind ?_ (fun _ => ?_))
   | exact ih0 _ _ _
   | exact ih1 _ _ _ _
   | exact ih2 _ _ _ _ _ _
   | exact ih3 _ _ _ _ _ _
   | exact ih4 _ _ _ _ _
   | exact arg_Operands.mono _ _
   | exact salvorlaw9_ArgRuns.mono _
   | exact salvorlaw9_few.mono _ _ _
   | exact LeO.none _
   | refine LeO.ite ?_ ?_
   | refine LeO.bind ?_ (fun _ => ?_)
  ·intro y0 y1 y2 y3 y4 y5
   unfold salvorlaw9_ArgKeys.j3
   repeat' first
   | (with_reducible exact ih0 _ _ _)
   | (with_reducible exact ih1 _ _ _ _)
   | (with_reducible exact ih2 _ _ _ _ _ _)
   | (with_reducible exact ih3 _ _ _ _ _ _)
   | (with_reducible exact ih4 _ _ _ _ _)
   | (with_reducible exact arg_Operands.mono _ _)
   | (with_reducible exact salvorlaw9_ArgRuns.mono _)
   | (with_reducible exact salvorlaw9_few.mono _ _ _)
   | (with_reducible exact LeO.refl _)
   | (with_reducible exact LeO.none _)
   | (with_reducible refine LeO.ite ?_ ?_)
   | (with_reducible refine LeO.bind ?_ (fun _ => ?_))
   | exact ih0 _ _ _
   | exact ih1 _ _ _ _
   | exact ih2 _ _ _ _ _ _
   | exact ih3 _ _ _ _ _ _
   | exact ih4 _ _ _ _ _
   | exact arg_Operands.mono _ _
   | exact salvorlaw9_ArgRuns.mono _
   | exact salvorlaw9_few.mono _ _ _
   | exact LeO.none _
   | refine LeO.ite ?_ ?_
   | refine LeO.bind ?_ (fun _ => ?_)
  ·intro y0 y1 y2 y3 y4 y5
   unfold salvorlaw9_ArgKeys.l1
   repeat' first
   | (with_reducible exact ih0 _ _ _)
   | (with_reducible exact ih1 _ _ _ _)
   | (with_reducible exact ih2 _ _ _ _ _ _)
   | (with_reducible exact ih3 _ _ _ _ _ _)
   | (with_reducible exact ih4 _ _ _ _ _)
   | (with_reducible exact arg_Operands.mono _ _)
   | (with_reducible exact salvorlaw9_ArgRuns.mono _)
   | (with_reducible exact salvorlaw9_few.mono _ _ _)
   | (with_reducible exact LeO.refl _)
   | (with_reducible exact LeO.none _)
   | (with_reducible refine LeO.ite ?_ ?_)
   | (with_reducible refine LeO.bind ?_ (fun _ => ?_))
   | exact ih0 _ _ _
   | exact ih1 _ _ _ _
   | exact ih2 _ _ _ _ _ _
   | exact ih3 _ _ _ _ _ _
   | exact ih4 _ _ _ _ _
   | exact arg_Operands.mono _ _
   | exact salvorlaw9_ArgRuns.mono _
   | exact salvorlaw9_few.mono _ _ _
   | exact LeO.none _
   | refine LeO.ite ?_ ?_
   | refine LeO.bind ?_ (fun _ => ?_)
  ·intro y0 y1 y2 y3 y4
   unfold salvorlaw9_ArgKeys.l0
   repeat' first
   | (with_reducible exact ih0 _ _ _)
   | (with_reducible exact ih1 _ _ _ _)
   | (with_reducible exact ih2 _ _ _ _ _ _)
   | (with_reducible exact ih3 _ _ _ _ _ _)
   | (with_reducible exact ih4 _ _ _ _ _)
   | (with_reducible exact arg_Operands.mono _ _)
   | (with_reducible exact salvorlaw9_ArgRuns.mono _)
   | (with_reducible exact salvorlaw9_few.mono _ _ _)
   | (with_reducible exact LeO.refl _)
   | (with_reducible exact LeO.none _)
   | (with_reducible refine LeO.ite ?_ ?_)
   | (with_reducible refine LeO.bind ?_ (fun _ => ?_))
   | exact ih0 _ _ _
   | exact ih1 _ _ _ _
   | exact ih2 _ _ _ _ _ _
   | exact ih3 _ _ _ _ _ _
   | exact ih4 _ _ _ _ _
   | exact arg_Operands.mono _ _
   | exact salvorlaw9_ArgRuns.mono _
   | exact salvorlaw9_few.mono _ _ _
   | exact LeO.none _
   | refine LeO.ite ?_ ?_
   | refine LeO.bind ?_ (fun _ => ?_)
theorem salvorlaw9_ArgKeys.mono : ∀ a0 a1 k, LeO (salvorlaw9_ArgKeys.f k a0 a1) (salvorlaw9_ArgKeys.f (k + 1) a0 a1) := by
 intro a0 a1 k
 obtain ⟨ih0, ih1, ih2, ih3, ih4⟩ := salvorlaw9_ArgKeys.mono_l k
 unfold salvorlaw9_ArgKeys.f
 repeat' first
   | (with_reducible exact ih0 _ _ _)
   | (with_reducible exact ih1 _ _ _ _)
   | (with_reducible exact ih2 _ _ _ _ _ _)
   | (with_reducible exact ih3 _ _ _ _ _ _)
   | (with_reducible exact ih4 _ _ _ _ _)
   | (with_reducible exact arg_Operands.mono _ _)
   | (with_reducible exact salvorlaw9_ArgRuns.mono _)
   | (with_reducible exact salvorlaw9_few.mono _ _ _)
   | (with_reducible exact LeO.refl _)
   | (with_reducible exact LeO.none _)
   | (with_reducible refine LeO.ite ?_ ?_)
   | (with_reducible refine LeO.bind ?_ (fun _ => ?_))
   | exact ih0 _ _ _
   | exact ih1 _ _ _ _
   | exact ih2 _ _ _ _ _ _
   | exact ih3 _ _ _ _ _ _
   | exact ih4 _ _ _ _ _
   | exact arg_Operands.mono _ _
   | exact salvorlaw9_ArgRuns.mono _
   | exact salvorlaw9_few.mono _ _ _
   | exact LeO.none _
   | refine LeO.ite ?_ ?_
   | refine LeO.bind ?_ (fun _ => ?_)
def salvorlaw9_ArgKeys.T8 : Bool × List (List Nat × List Nat) := (true, [([], []), ([], []), ([], []), ([1, 2], [1, 2]), ([3], [3]), ([4], [4]), ([], []), ([], []), ([6, 7], [6, 7]), ([8], [8]), ([5, 9], [5, 9]), ([10], [10]), ([0, 11], [0, 11]), ([12, 12, 0, 1, 2, 3, 4, 5, 6, 7, 8, 9, 10, 11, 12], [0, 12])])
def salvorlaw9_ArgKeys.B8 : List Nat := [0, 0, 0, 6, 14, 30, 0, 0, 192, 448, 1022, 2046, 4095, 8191]
theorem salvorlaw9_ArgKeys.tab8 : rtab .any (opsOf Tryd.f8 8) = salvorlaw9_ArgKeys.T8 := by kernel_rfl
theorem salvorlaw9_ArgKeys.bits8 : waitsOk salvorlaw9_ArgKeys.T8.2 salvorlaw9_ArgKeys.B8 = true := by kernel_rfl
def salvorlaw9_ArgKeys.T16 : Bool × List (List Nat × List Nat) := (true, [([], []), ([0], [0]), ([1], [1]), ([2], [2]), ([2], [2]), ([2], [2]), ([4, 5, 2], [2, 4, 5]), ([6, 2], [2, 6]), ([3, 7, 2], [2, 3, 7]), ([2, 8], [2, 8]), ([9, 2], [9]), ([10], [10]), ([10], [10]), ([11, 12, 10], [10, 11, 12]), ([13, 10], [10, 13]), ([14, 10], [10, 14]), ([10], [10]), ([10], [10]), ([16, 17, 10], [10, 16, 17]), ([18, 10], [10, 18]), ([15, 19, 10], [10, 15, 19]), ([10, 20], [10, 20])])
def salvorlaw9_ArgKeys.B16 : List Nat := [0, 1, 3, 7, 7, 7, 55, 119, 255, 511, 1023, 2047, 2047, 8191, 16383, 32767, 2047, 2047, 198655, 460799, 1048575, 2097151]
theorem salvorlaw9_ArgKeys.tab16 : rtab .any (opsOf Tryd.f8 16) = salvorlaw9_ArgKeys.T16 := by kernel_rfl
theorem salvorlaw9_ArgKeys.bits16 : waitsOk salvorlaw9_ArgKeys.T16.2 salvorlaw9_ArgKeys.B16 = true := by kernel_rfl
set_option maxHeartbeats 8000000 in
set_option maxRecDepth 100000 in
theorem salvorlaw9_ArgKeys.calls (k : Nat) (A0 : Option Addr) (c0 : Nat) (l0 : List ByteArray) (a1 : Int) (r : Bool) (w : World) (hr0 : Kd.C Kd.string w A0 l0.length l0) (hc0 : l0.length ≤ c0) (h : salvorlaw9_ArgKeys.f k l0 a1 = some r) (htab : TabAt w) (hrt : r = true) :
  Calls Tryd.prog 8 #[.slice A0 l0.length c0, .int .u8 a1] w fun e w' => e = .returned (.bool r) ∧ Below w.heap.size w w' := by
 have HT := Aside0.mk hrt
 clear hrt
 have HTAB := Aside0.mk htab
 clear htab
 have HR0 := Aside0.mk hr0
 have HC0 := Aside0.mk hc0
 clear hr0 hc0
 have HB := Aside0.mk (Below.refl w.heap.size w)
 have H : (if (l0.length : Int) > 20 then (salvorlaw9_ArgKeys.j0 k l0 a1 true) else ((salvorlaw9_few.f k l0 20).bind fun t321 => (salvorlaw9_ArgKeys.j0 k l0 a1 (!t321)))) = some r := h
 clear h
 have HC3 := Aside0.mk H
 clear H
 go_enter Tryd.func8, Tryd.ntmps8
 go_upto_region 1 with (fail)
 go_cut [23] (fun v23 wc => ∃ (kq : Nat) (x23_2 : Bool), v23 = .bool x23_2 ∧ Aside0 (salvorlaw9_ArgKeys.j0 kq l0 a1 x23_2 = some r) ∧ Aside0 (kq ≤ k) ∧ Aside0 (Below w.heap.size w wc))
 case first =>
  have H := HC3.out
  clear HC3
  by_cases c4 : (l0.length : Int) > 20
  ·rw [if_pos c4] at H
   have c4b0 : decide (20 < (l0.length : Int)) = true := decide_eq_true c4
   have c4b1 : decide (20 < l0.length) = true := decide_eq_true (by omega)
   clear c4
   (first | rw [c4b0] | (simp only [i64_w, i32_w]; rw [c4b0]) | skip)
   have H' := Aside0.mk H
   clear H
   go_wp2
   go_meet
   case rel => exact ⟨_, (true), (by first | rfl | (simp; done) | (simp [*]; done)), H', ⟨by first | omega | exact Nat.le_refl _⟩, ⟨bh_ HB⟩⟩
  ·rw [if_neg c4] at H
   have c4b0 : decide (20 < (l0.length : Int)) = false := decide_eq_false c4
   have c4b1 : decide (20 < l0.length) = false := decide_eq_false (by omega)
   clear c4
   (first | rw [c4b0] | (simp only [i64_w, i32_w]; rw [c4b0]) | skip)
   replace H := Option.bind_eq_some_iff.mp H
   obtain ⟨t321, A50, H⟩ := H
   replace H : (salvorlaw9_ArgKeys.j0 k l0 a1 (!t321)) = some r := H
   have A5 := Aside0.mk A50
   clear A50
   have H' := Aside0.mk H
   clear H
   go_wp2_with (first | (go_at_call 13; (with_reducible refine (salvorlaw9_few.calls k _ _ l0 20 t321 _ ?side1 ?side2 A5.out ?tb0_).mono ?_); (case tb0_ => exact tb_ HTAB HB); (case side1 => exact cb_ HR0 HB); (case side2 => exact HC0.out); rintro e w' ⟨rfl, ⟨nd, rfl⟩⟩))
   go_meet
   case rel => exact ⟨_, (!t321), (by first | rfl | (simp; done) | (simp [*]; done)), H', ⟨by first | omega | exact Nat.le_refl _⟩, ⟨bh_ HB⟩⟩
 case rest =>
  clear HC3
  try clear p2
  try clear c4
  try clear c4b0
  try clear c4b1
  obtain ⟨kq, x23_2, rfl, HA, HJ2, HB⟩ := hcut
  cases kq with
  | zero => exact absurd HA.out (by simp [salvorlaw9_ArgKeys.j0])
  | succ kj2 =>
   have H := HA.out
   clear HA
   simp only [salvorlaw9_ArgKeys.j0] at H
   by_cases c6 : x23_2 = true
   ·subst c6
    have H1 : ((salvorlaw9_ArgRuns.f kj2).bind fun t322 => (some t322)) = some r := by rw [if_pos rfl] at H; exact H
    clear H
    have H := H1
    clear H1
    replace H := Option.bind_eq_some_iff.mp H
    obtain ⟨t322, A70, H⟩ := H
    replace H : (some t322) = some r := H
    have A7 := Aside0.mk A70
    clear A70
    obtain rfl := Option.some.inj H
    go_wp2_with (first | ((with_reducible refine gate_callee (f := 3) rfl ?_); refine gl_ (some 24) rfl rfl Tryd.func3 (by kernel_rfl) rfl #[] rfl ?_; (with_reducible refine (salvorlaw9_ArgRuns.calls kj2  t322 _ A7.out ?tb2_).mono ?_); (case tb2_ => exact tb_ HTAB HB); rintro e w8 ⟨rfl, hb⟩; refine ⟨_, rfl, ?_⟩; replace HB := bs_ HB hb; (try clear hb)))
    go_ret
    exact ⟨by first | rfl | (simp [errW_none, errW_some] <;> rfl) | (simp [*, errW_none, errW_some] <;> rfl), bh_ HB⟩
   ·replace c6 := Bool.eq_false_iff.mpr c6
    subst c6
    have H1 : (salvorlaw9_ArgKeys.l0 kj2 l0 a1 (([(⟨#[105, 102]⟩ : ByteArray), (⟨#[111, 102]⟩ : ByteArray), (⟨#[98, 115]⟩ : ByteArray), (⟨#[99, 111, 110, 118]⟩ : ByteArray), (⟨#[105, 102, 108, 97, 103]⟩ : ByteArray), (⟨#[115, 107, 105, 112]⟩ : ByteArray), (⟨#[97, 98, 99, 100, 101, 102, 103, 104, 105, 106]⟩ : ByteArray), (⟨#[122]⟩ : ByteArray)] : List ByteArray)) ([] : List ByteArray) 0) = some r := by rw [if_neg (show ¬ (false = true) by decide)] at H; exact H
    clear H
    have H := H1
    clear H1
    obtain ⟨y323, hy323⟩ : ∃ y_ : List ByteArray, y_ = (([(⟨#[105, 102]⟩ : ByteArray), (⟨#[111, 102]⟩ : ByteArray), (⟨#[98, 115]⟩ : ByteArray), (⟨#[99, 111, 110, 118]⟩ : ByteArray), (⟨#[105, 102, 108, 97, 103]⟩ : ByteArray), (⟨#[115, 107, 105, 112]⟩ : ByteArray), (⟨#[97, 98, 99, 100, 101, 102, 103, 104, 105, 106]⟩ : ByteArray), (⟨#[122]⟩ : ByteArray)] : List ByteArray)) := ⟨_, rfl⟩
    replace H : (salvorlaw9_ArgKeys.l0 kj2 l0 a1 y323 ([] : List ByteArray) 0) = some r := by first | (rw [hy323]; with_reducible exact H) | (have H2_ := (Option.bind_some _ _).symm.trans H; rw [hy323]; with_reducible exact H2_) | (have H2_ := (Option.bind_some _ _).symm.trans H; with_reducible exact H2_) | with_reducible exact H | (rw [hy323]; exact H) | exact H
    have Ny323 := Aside0.mk hy323
    clear hy323
    have HC9 := Aside0.mk H
    clear H
    go_upto_block 0 with (first | ((with_reducible refine gate_dst (N := 25) rfl ?_); (try (refine gate_guard (by rfl) ?_; dsimp only)); refine Kd.R_lit Kd.string _ 9 ?hg (N := 25) ?hd (xs := ([(⟨#[105, 102]⟩ : ByteArray), (⟨#[111, 102]⟩ : ByteArray), (⟨#[98, 115]⟩ : ByteArray), (⟨#[99, 111, 110, 118]⟩ : ByteArray), (⟨#[105, 102, 108, 97, 103]⟩ : ByteArray), (⟨#[115, 107, 105, 112]⟩ : ByteArray), (⟨#[97, 98, 99, 100, 101, 102, 103, 104, 105, 106]⟩ : ByteArray), (⟨#[122]⟩ : ByteArray)] : List ByteArray)) (inner := [.string (⟨#[105, 102]⟩ : ByteArray), .string (⟨#[111, 102]⟩ : ByteArray), .string (⟨#[98, 115]⟩ : ByteArray), .string (⟨#[99, 111, 110, 118]⟩ : ByteArray), .string (⟨#[105, 102, 108, 97, 103]⟩ : ByteArray), .string (⟨#[115, 107, 105, 112]⟩ : ByteArray), .string (⟨#[97, 98, 99, 100, 101, 102, 103, 104, 105, 106]⟩ : ByteArray), .string (⟨#[122]⟩ : ByteArray)]) (ok := fun _ => True) (okp := fun _ => True) ?hr ?hp (fun _ hk => hk) trivial (Below.refl _ _) (Nat.le_refl _) (by simp) ?_; (case hd => rfl); (case hg => rfl); (case hr => first | (go_simp; done) | (go_simp; rfl)); (case hp => exact (Reps.one (show Kd.M Kd.string _ _ _ (⟨#[105, 102]⟩ : ByteArray) [.string (⟨#[105, 102]⟩ : ByteArray)] from rfl) (Reps.one (show Kd.M Kd.string _ _ _ (⟨#[111, 102]⟩ : ByteArray) [.string (⟨#[111, 102]⟩ : ByteArray)] from rfl) (Reps.one (show Kd.M Kd.string _ _ _ (⟨#[98, 115]⟩ : ByteArray) [.string (⟨#[98, 115]⟩ : ByteArray)] from rfl) (Reps.one (show Kd.M Kd.string _ _ _ (⟨#[99, 111, 110, 118]⟩ : ByteArray) [.string (⟨#[99, 111, 110, 118]⟩ : ByteArray)] from rfl) (Reps.one (show Kd.M Kd.string _ _ _ (⟨#[105, 102, 108, 97, 103]⟩ : ByteArray) [.string (⟨#[105, 102, 108, 97, 103]⟩ : ByteArray)] from rfl) (Reps.one (show Kd.M Kd.string _ _ _ (⟨#[115, 107, 105, 112]⟩ : ByteArray) [.string (⟨#[115, 107, 105, 112]⟩ : ByteArray)] from rfl) (Reps.one (show Kd.M Kd.string _ _ _ (⟨#[97, 98, 99, 100, 101, 102, 103, 104, 105, 106]⟩ : ByteArray) [.string (⟨#[97, 98, 99, 100, 101, 102, 103, 104, 105, 106]⟩ : ByteArray)] from rfl) (Reps.one (show Kd.M Kd.string _ _ _ (⟨#[122]⟩ : ByteArray) [.string (⟨#[122]⟩ : ByteArray)] from rfl) (Reps.none _ _)))))))))); intro v324 w10 ho11 hb hg_ hnew_; clear hg_ hnew_; (first | rw [← Ny323.out] at ho11 | (simp only [Int.reduceToNat] at ho11; rw [← Ny323.out] at ho11)); have HO325 := Aside0.mk (Kd.R_lower ho11 (below_size (bh_ HB))); replace HB := bs_ HB hb; clear hb ho11))
    (try simp only [Act.put, List.setIfInBounds_toArray, List.set_cons_zero, List.set_cons_succ])
    go_cut [6] (fun v6 wc => ∃ (kq : Nat) (x6_8 : List ByteArray), Aside0 (salvorlaw9_ArgKeys.j2 kq l0 a1 y323 x6_8 = some r) ∧ Aside0 (kq ≤ kj2) ∧ Aside0 (Kd.R Kd.string 9 wc w.heap.size (fun k_ => some k_ ≠ (v6 : Value).ownBlock) v324 y323) ∧ Aside0 (Kd.R Kd.string 9 wc w.heap.size (fun k_ => some k_ ≠ (v324 : Value).ownBlock) v6 x6_8) ∧ Aside0 (Below w.heap.size w wc))
    case first =>
     have H := HC9.out
     clear HC9
     have H' := Aside0.mk H
     clear H
     go_wp2
     go_loopg [6, 7] kj2 (fun kq v6 v7 w' => ∃ (x6_2 : List ByteArray) (x7_2 : Int), v7 = .int .i64 x7_2 ∧ Aside0 (salvorlaw9_ArgKeys.l0 kq l0 a1 y323 x6_2 x7_2 = some r) ∧ Aside0 (kq ≤ kj2) ∧ Aside0 (Kd.R Kd.string 9 w' w.heap.size (fun k_ => some k_ ≠ (v6 : Value).ownBlock) v324 y323) ∧ Aside0 (Kd.R Kd.string 9 w' w.heap.size (fun k_ => some k_ ≠ (v324 : Value).ownBlock) v6 x6_2) ∧ Aside0 (Below w.heap.size w w'))
     case atStart => exact ⟨(([] : List ByteArray)), (0), (by first | rfl | (simp; done) | (simp [*]; done)), H', ⟨Nat.le_refl _⟩, ⟨by (with_reducible repeat (first | apply Kd.R_alloc | apply Kd.R_drewN | apply Kd.R_drew)); exact Kd.R_mono HO325.out (fun _ hk => (by simp [Value.ownBlock]))⟩, ⟨by first | exact Kd.R_nil _ _ _ _ _ | exact Kd.N_nil _ _ _ _ _ | exact Kd.V_nil _ _ _ _ _ | exact Kd.Q_nil _ _ _ _ _ | exact Kd.S_nil _ _ _ _ _⟩, ⟨bh_ HB⟩⟩
     case round =>
      clear H'
      try clear p2
      try clear c3
      try clear c4
      try clear c4b0
      try clear c4b1
      try clear c6
      try clear c8
      try clear p2
      obtain ⟨x6_2, x7_2, rfl, HA, HK2, HO_5, HO_6, HB⟩ := hrel
      cases gk with
      | zero => exact absurd HA.out (by simp [salvorlaw9_ArgKeys.l0])
      | succ k2 =>
       have H := HA.out
       clear HA
       simp only [salvorlaw9_ArgKeys.l0] at H
       by_cases c12 : x7_2 < (l0.length : Int)
       ·rw [if_pos c12] at H
        have c12b0 : decide (x7_2 < (l0.length : Int)) = true := decide_eq_true c12
        clear c12
        (first | rw [c12b0] | (simp only [i64_w, i32_w]; rw [c12b0]) | skip)
        by_cases c13 : x7_2 < (y323.length : Int)
        ·rw [if_pos c13] at H
         have c13b0 : decide (x7_2 < (y323.length : Int)) = true := decide_eq_true c13
         clear c13
         by_cases c14 : 0 ≤ x7_2
         ·rw [if_pos c14] at H
          have c14b0 : decide (0 ≤ x7_2) = true := decide_eq_true c14
          clear c14
          by_cases c15 : (rdOf ByteArray.empty y323 x7_2).size + 1 ≤ 9223372036854775807
          ·rw [if_pos c15] at H
           have c15b0 := eq_true c15
           have c15b1 : decide ((rdOf ByteArray.empty y323 x7_2).size + 1 ≤ 9223372036854775807) = true := decide_eq_true c15
           try have c15b2 : (9223372036854775807 < (rdOf ByteArray.empty y323 x7_2).size + 1) = False := eq_false (Nat.not_lt.2 c15)
           by_cases c16 : ((rdOf ByteArray.empty y323 x7_2) ++ (⟨#[61]⟩ : ByteArray)).size + (rdOf ByteArray.empty l0 x7_2).size ≤ 9223372036854775807
           ·rw [if_pos c16] at H
            have c16b0 := eq_true c16
            have c16b1 : decide (((rdOf ByteArray.empty y323 x7_2) ++ (⟨#[61]⟩ : ByteArray)).size + (rdOf ByteArray.empty l0 x7_2).size ≤ 9223372036854775807) = true := decide_eq_true c16
            try have c16b2 : (9223372036854775807 < ((rdOf ByteArray.empty y323 x7_2) ++ (⟨#[61]⟩ : ByteArray)).size + (rdOf ByteArray.empty l0 x7_2).size) = False := eq_false (Nat.not_lt.2 c16)
            try have c16b3 : (9223372036854775807 < (rdOf ByteArray.empty y323 x7_2).size + 1 + (rdOf ByteArray.empty l0 x7_2).size) = False := eq_false (Nat.not_lt.2 (by have h_ := c16; simp only [ByteArray.size_append] at h_; exact h_))
            by_cases c17 : x6_2.length < 8796093022208
            ·rw [if_pos c17] at H
             have LMc17 := Aside0.mk c17
             clear c17
             obtain ⟨y328, hy328⟩ : ∃ y_ : List ByteArray, y_ = (x6_2 ++ [((rdOf ByteArray.empty y323 x7_2) ++ (⟨#[61]⟩ : ByteArray)) ++ (rdOf ByteArray.empty l0 x7_2)]) := ⟨_, rfl⟩
             replace H : (salvorlaw9_ArgKeys.l0 k2 l0 a1 y323 y328 (wrap64 (x7_2 + 1))) = some r := by first | (rw [hy328]; with_reducible exact H) | (have H2_ := (Option.bind_some _ _).symm.trans H; rw [hy328]; with_reducible exact H2_) | (have H2_ := (Option.bind_some _ _).symm.trans H; with_reducible exact H2_) | with_reducible exact H | (rw [hy328]; exact H) | exact H
             have Ny328 := Aside0.mk hy328
             clear hy328
             have H' := Aside0.mk H
             clear H
             obtain ⟨Ao18, co18, eo18⟩ := Kd.R_slice HO_5.out
             subst eo18
             try go_wp2
             replace HO_5 := Aside0.mk (Kd.R_drew HO_5.out)
             replace HO_6 := Aside0.mk (Kd.R_drew HO_6.out)
             replace HB := Aside0.mk (below_drew1 HB.out)
             have p326 : 0 ≤ (x7_2 : Int) := of_decide_eq_true (by first | (with_reducible assumption) | assumption)
             have q326 : x7_2 < (y323.length : Int) := of_decide_eq_true (by first | (with_reducible assumption) | assumption)
             obtain ⟨ad326, e326, hx326_0⟩ := Kd.at_string (Kd.R_reads' HO_5.out).2.2 x7_2 p326 q326
             cases e326
             replace p326 := eq_true p326
             replace q326 := eq_true q326
             have p327 : 0 ≤ (x7_2 : Int) := of_decide_eq_true (by first | (with_reducible assumption) | assumption)
             have q327 : x7_2 < (l0.length : Int) := of_decide_eq_true (by first | (with_reducible assumption) | assumption)
             obtain ⟨ad327, e327, hx327_0⟩ := Kd.at_string HR0.out x7_2 p327 q327
             have hw327_0 := hx327_0
             cases e327
             replace hx327_0 := (HB.out.cell (World.block_lt_of_cell? w _ hx327_0)).trans hx327_0
             replace p327 := eq_true p327
             replace q327 := eq_true q327
             refine start_ (n := 14) (S := fun w' => w'.cell? (ad326.add (x7_2).toNat) = some (.string (rdOf ByteArray.empty y323 x7_2)) ∧ w'.cell? (ad327.add (x7_2).toNat) = some (.string (rdOf ByteArray.empty l0 x7_2))) (ds := [11, 12]) #[false, false, false, false, false, false, false, false, false, false, false, false, false, false] (by kernel_rfl) rfl rfl ⟨hx326_0, ((HB.out.cell (World.block_lt_of_cell? w _ hw327_0)).trans hw327_0)⟩ (fun hHeld => ?_); refine with_tabW salvorlaw9_ArgKeys.tab8 salvorlaw9_ArgKeys.bits8 (fun HT_ HW_ => ?_)
             generalize wr.drew = w19 at HO_5 HO_6 HB hx326_0 hx327_0 hHeld ⊢
             refine pu_ 0 38 (lb_ 14 1) rfl rfl (ao_ HT_) ?_
             refine pu_ 1 39 (lb_ 14 3) rfl rfl (ao_ HT_) ?_
             refine pu_ 2 40 (lb_ 14 7) rfl rfl (ao_ HT_) ?_
             refine pu_ 3 41 (lb_ 14 15) rfl rfl (ao_ HT_) ?_
             refine pu_ 6 44 (lb_ 14 79) rfl rfl (ao_ HT_) ?_
             refine pu_ 7 45 (lb_ 14 207) rfl rfl (ao_ HT_) ?_
             refine pu_ 8 46 (lb_ 14 463) rfl rfl (ao_ HT_) ?_
             refine tk_ 4 42 (lb_ 14 479) rfl rfl (take_ofW HT_.out HW_.out (by kernel_rfl)) hHeld ?_
             refine pu_ 5 43 (lb_ 14 511) rfl rfl (ao_ HT_) ?_
             refine tk_ 9 47 (lb_ 14 1023) rfl rfl (take_ofW HT_.out HW_.out (by kernel_rfl)) hHeld ?_
             refine pu_ 10 48 (lb_ 14 2047) rfl rfl (ao_ HT_) ?_
             refine last_ (i := 11) (N := some 49) #[true, true, true, true, true, true, true, true, true, true, true, true, false, false] rfl rfl (one_of HT_.out (by kernel_rfl)) (by decide) (fun K hK => ?_)
             refine value_ (w1 := ?_) (v := ?_) (by rfl) rfl ?_ ?_
             rotate_left 2
             ·go_simp
              constructor
              ·rfl
              ·rfl
             refine hK.out _ _ ?_
             clear hK K
             refine nm_ 49 ?_
             refine last_ (i := 12) (N := some 50) #[true, true, true, true, true, true, true, true, true, true, true, true, true, false] rfl rfl (one_of HT_.out (by kernel_rfl)) (by decide) (fun K hK => ?_)
             refine Kd.R_append_step Kd.string (w0 := w) w.heap.size (by rfl) (.tmp 38) (.tmp 49) 23 9 (.string ⟨#[]⟩) 16 rfl Tryd.underlying23 info9 rfl (by decide) (by omega) u6 x6_2 (((rdOf ByteArray.empty y323 x7_2) ++ (⟨#[61]⟩ : ByteArray)) ++ (rdOf ByteArray.empty l0 x7_2)) [.string (((rdOf ByteArray.empty y323 x7_2) ++ (⟨#[61]⟩ : ByteArray)) ++ (rdOf ByteArray.empty l0 x7_2))] (fun k_ => some k_ ≠ (.slice (some ad326) y323.length co18 : Value).ownBlock) (fun _ => False) rfl rfl ?aP (fun _ hk => hk.elim) ?aF ?aO ?aB ?aS ?aL ?_
             (case aP => exact rfl)
             (case aB => exact (bh_ HB))
             (case aF => exact (fun k_ hk => Kd.fresh' (Kd.R_lt (by (with_reducible repeat (first | apply Kd.R_alloc | apply Kd.R_drewN | apply Kd.R_drew)); exact HO_5.out)) k_ hk))
             (case aO => exact (by (with_reducible repeat (first | apply Kd.R_alloc | apply Kd.R_drewN | apply Kd.R_drew)); exact HO_6.out))
             (case aS => exact (below_size (bh_ HB)))
             (case aL => have := LMc17.out; omega)
             intro v329 w20 ho hb hg hat
             rw [← Ny328.out] at ho
             have n0_ := Aside0.mk (Kd.R_after (ok := (fun _ => True)) (by (with_reducible repeat (first | apply Kd.R_alloc | apply Kd.R_drewN | apply Kd.R_drew)); exact Kd.R_mono HO_5.out (fun _ hk => ⟨trivial, hk⟩)) hg hat)
             have n1_ := Aside0.mk (hb)
             have n2_ := Aside0.mk (ho)
             clear HO_5
             clear HB
             clear HO_6
             have HO_5 := n0_
             have HB := n1_
             have HO330 := n2_
             clear n0_ n1_ n2_
             clear ho hb hg hat
             refine hK.out _ _ ?_
             clear hK K
             refine nm_ 50 ?_
             refine pu_ 13 6 (lb_ 14 16383) rfl rfl (ao_ HT_) ?_
             refine done_ (done_of HT_.out (by kernel_rfl)) ?_
             try go_wp2
             go_roundg k2
             case measure => have := HJ2.out; have := HK2.out; omega
             case rel => exact ⟨(y328), (wrap64 (x7_2 + 1)), (by first | rfl | (simp; done) | (simp [*]; done)), H', ⟨by have := HJ2.out; have := HK2.out; omega⟩, ⟨by (with_reducible repeat (first | apply Kd.R_alloc | apply Kd.R_drewN | apply Kd.R_drew)); exact Kd.R_mono HO_5.out (fun _ hk => hk.2)⟩, ⟨by (with_reducible repeat (first | apply Kd.R_alloc | apply Kd.R_drewN | apply Kd.R_drew)); exact HO330.out⟩, ⟨bh_ HB⟩⟩
            ·rw [if_neg c17] at H
             exact absurd H (by simp)
           ·rw [if_neg c16] at H
            exact absurd H (by simp)
          ·rw [if_neg c15] at H
           exact absurd H (by simp)
         ·rw [if_neg c14] at H
          exact absurd H (by simp)
        ·rw [if_neg c13] at H
         have c13b0 : decide (x7_2 < (y323.length : Int)) = false := decide_eq_false c13
         clear c13
         have H' := Aside0.mk H
         clear H
         obtain ⟨Ao21, co21, eo21⟩ := Kd.R_slice HO_5.out
         subst eo21
         go_wp2
         go_meet
         case rel => exact ⟨_, (x6_2), H', ⟨by have := HJ2.out; have := HK2.out; first | omega | exact Nat.le_refl _⟩, ⟨by (with_reducible repeat (first | apply Kd.R_alloc | apply Kd.R_drewN | apply Kd.R_drew)); exact HO_5.out⟩, ⟨by (with_reducible repeat (first | apply Kd.R_alloc | apply Kd.R_drewN | apply Kd.R_drew)); exact HO_6.out⟩, ⟨bh_ HB⟩⟩
       ·rw [if_neg c12] at H
        have c12b0 : decide (x7_2 < (l0.length : Int)) = false := decide_eq_false c12
        clear c12
        (first | rw [c12b0] | (simp only [i64_w, i32_w]; rw [c12b0]) | skip)
        have H' := Aside0.mk H
        clear H
        go_wp2
        go_meet
        case rel => exact ⟨_, (x6_2), H', ⟨by have := HJ2.out; have := HK2.out; first | omega | exact Nat.le_refl _⟩, ⟨by (with_reducible repeat (first | apply Kd.R_alloc | apply Kd.R_drewN | apply Kd.R_drew)); exact HO_5.out⟩, ⟨by (with_reducible repeat (first | apply Kd.R_alloc | apply Kd.R_drewN | apply Kd.R_drew)); exact HO_6.out⟩, ⟨bh_ HB⟩⟩
    case rest =>
     clear HC9
     try clear c1
     try clear p2
     try clear c3
     try clear p3
     try clear q3
     try clear hx3
     try clear c4
     try clear c4b0
     try clear c4b1
     try clear c6
     try clear p6
     try clear c8
     try clear c12
     try clear c12b0
     try clear c13
     try clear c13b0
     try clear c14
     try clear c14b0
     try clear c15
     try clear c15b0
     try clear c15b1
     try clear c15b2
     try clear c16
     try clear c16b0
     try clear c16b1
     try clear c16b2
     try clear c17
     try clear hx326_0
     try clear hx327_0
     try clear p2
     try clear p326
     try clear p327
     try clear q326
     try clear q327
     obtain ⟨kq, x6_8, HA, HJ8, HO_5, HO_6, HB⟩ := hcut
     cases kq with
     | zero => exact absurd HA.out (by simp [salvorlaw9_ArgKeys.j2])
     | succ kj8 =>
      have H := HA.out
      clear HA
      simp only [salvorlaw9_ArgKeys.j2] at H
      replace H := Option.bind_eq_some_iff.mp H
      obtain ⟨⟨t331, t332⟩, A220, H⟩ := H
      replace H : (if t332 = true then (salvorlaw9_ArgKeys.j3 kj8 l0 a1 y323 x6_8 t331 ((t331.length : Int) != (x6_8.length : Int))) else (salvorlaw9_ArgKeys.j3 kj8 l0 a1 y323 x6_8 t331 true)) = some r := H
      have A22 := Aside0.mk A220
      clear A220
      have HC23 := Aside0.mk H
      clear H
      obtain ⟨Ao24, co24, eo24⟩ := Kd.R_slice HO_6.out
      subst eo24
      go_upto_region 10 with (first | ((with_reducible refine gate_callee (f := 11) rfl ?_); refine gl_ (some 53) rfl rfl Tryd.func11 (by kernel_rfl) rfl #[.slice Ao24 x6_8.length co24] rfl ?_; (with_reducible refine (arg_Operands.calls kj8 _ _ x6_8 t331 t332 _ ?side1 ?side2 A22.out ?tb4_).mono ?_); (case tb4_ => exact tb_ HTAB HB); (case side1 => repeat (first | exact (Kd.R_reads' HO_6.out).2.2 | (with_reducible refine Kd.C_alloc ?_ _) | (with_reducible refine Kd.C_drewN ?_ _) | (with_reducible refine Kd.C_drew ?_))); (case side2 => exact (Kd.R_reads' HO_6.out).2.1); rintro e w25 ⟨v333, rfl, ho0, hb⟩; refine ⟨_, rfl, ?_⟩; have n0_ := Aside0.mk (Kd.R_below (by (with_reducible repeat (first | apply Kd.R_alloc | apply Kd.R_drewN | apply Kd.R_drew)); exact HO_5.out) hb); have n1_ := Aside0.mk (Kd.R_below (by (with_reducible repeat (first | apply Kd.R_alloc | apply Kd.R_drewN | apply Kd.R_drew)); exact HO_6.out) hb); have n2_ := Aside0.mk (Kd.R_lower ho0 (below_size (bh_ HB))); have n3_ := bs_ HB hb; clear HO_5; clear HO_6; clear HB; have HO_5 := n0_; have HO_6 := n1_; have HO334 := n2_; have HB := n3_; clear n0_ n1_ n2_ n3_; (try clear hb); (try clear hb2); (try clear hk); (try clear hi); (try clear ho0)))
      (try simp only [Act.put, List.setIfInBounds_toArray, List.set_cons_zero, List.set_cons_succ])
      go_cut [64] (fun v64 wc => ∃ (kq : Nat) (x64_22 : Bool), v64 = .bool x64_22 ∧ Aside0 (salvorlaw9_ArgKeys.j3 kq l0 a1 y323 x6_8 t331 x64_22 = some r) ∧ Aside0 (kq ≤ kj8) ∧ Aside0 (Kd.R Kd.string 9 wc w.heap.size (fun k_ => some k_ ≠ ((.slice Ao24 x6_8.length co24) : Value).ownBlock) v324 y323) ∧ Aside0 (Kd.R Kd.string 9 wc w.heap.size (fun k_ => some k_ ≠ (v324 : Value).ownBlock) (.slice Ao24 x6_8.length co24) x6_8) ∧ Aside0 (Kd.R k31 31 wc w.heap.size (fun _ => True) v333 t331) ∧ Aside0 (Below w.heap.size w wc))
      case first =>
       have H := HC23.out
       clear HC23
       by_cases c26 : t332 = true
       ·subst c26
        have H1 : (salvorlaw9_ArgKeys.j3 kj8 l0 a1 y323 x6_8 t331 ((t331.length : Int) != (x6_8.length : Int))) = some r := by rw [if_pos rfl] at H; exact H
        clear H
        have H := H1
        clear H1
        have H' := Aside0.mk H
        clear H
        obtain ⟨Ao27, co27, eo27⟩ := Kd.R_slice HO334.out
        subst eo27
        go_wp2
        go_meet
        case rel => exact ⟨_, (((t331.length : Int) != (x6_8.length : Int))), (by first | rfl | (simp; done) | (simp [*]; done)), H', ⟨by have := HJ2.out; have := HJ8.out; first | omega | exact Nat.le_refl _⟩, ⟨by (with_reducible repeat (first | apply Kd.R_alloc | apply Kd.R_drewN | apply Kd.R_drew)); exact HO_5.out⟩, ⟨by (with_reducible repeat (first | apply Kd.R_alloc | apply Kd.R_drewN | apply Kd.R_drew)); exact HO_6.out⟩, ⟨by (with_reducible repeat (first | apply Kd.R_alloc | apply Kd.R_drewN | apply Kd.R_drew)); exact HO334.out⟩, ⟨bh_ HB⟩⟩
       ·replace c26 := Bool.eq_false_iff.mpr c26
        subst c26
        have H1 : (salvorlaw9_ArgKeys.j3 kj8 l0 a1 y323 x6_8 t331 true) = some r := by rw [if_neg (show ¬ (false = true) by decide)] at H; exact H
        clear H
        have H := H1
        clear H1
        have H' := Aside0.mk H
        clear H
        go_wp2
        go_meet
        case rel => exact ⟨_, (true), (by first | rfl | (simp; done) | (simp [*]; done)), H', ⟨by have := HJ2.out; have := HJ8.out; first | omega | exact Nat.le_refl _⟩, ⟨by (with_reducible repeat (first | apply Kd.R_alloc | apply Kd.R_drewN | apply Kd.R_drew)); exact HO_5.out⟩, ⟨by (with_reducible repeat (first | apply Kd.R_alloc | apply Kd.R_drewN | apply Kd.R_drew)); exact HO_6.out⟩, ⟨by (with_reducible repeat (first | apply Kd.R_alloc | apply Kd.R_drewN | apply Kd.R_drew)); exact HO334.out⟩, ⟨bh_ HB⟩⟩
      case rest =>
       clear HC23
       try clear c1
       try clear c2
       try clear p2
       try clear c3
       try clear p3
       try clear q3
       try clear hx3
       try clear c4
       try clear c4b0
       try clear c4b1
       try clear c6
       try clear p6
       try clear c8
       try clear c11
       try clear c12
       try clear c12b0
       try clear c13
       try clear c13b0
       try clear c14
       try clear c14b0
       try clear c15
       try clear c15b0
       try clear c15b1
       try clear c15b2
       try clear c16
       try clear c16b0
       try clear c16b1
       try clear c16b2
       try clear c17
       try clear c26
       try clear hx326_0
       try clear hx327_0
       try clear p2
       try clear p3
       try clear p326
       try clear p327
       try clear p6
       try clear q3
       try clear q326
       try clear q327
       obtain ⟨kq, x64_22, rfl, HA, HJ22, HO_5, HO_6, HO_8, HB⟩ := hcut
       cases kq with
       | zero => exact absurd HA.out (by simp [salvorlaw9_ArgKeys.j3])
       | succ kj22 =>
        have H := HA.out
        clear HA
        simp only [salvorlaw9_ArgKeys.j3] at H
        by_cases c28 : x64_22 = true
        ·subst c28
         have H1 : (some false) = some r := by rw [if_pos rfl] at H; exact H
         clear H
         have H := H1
         clear H1
         exact absurd ((Option.some.inj H).trans HT.out) (by simp)
        ·replace c28 := Bool.eq_false_iff.mpr c28
         subst c28
         have H1 : (salvorlaw9_ArgKeys.l1 kj22 l0 a1 y323 x6_8 t331 0) = some r := by rw [if_neg (show ¬ (false = true) by decide)] at H; exact H
         clear H
         have H := H1
         clear H1
         have H' := Aside0.mk H
         clear H
         go_wp2
         go_loopg [10] kj22 (fun kq v10 w' => ∃ (x10_4 : Int), v10 = .int .i64 x10_4 ∧ Aside0 (salvorlaw9_ArgKeys.l1 kq l0 a1 y323 x6_8 t331 x10_4 = some r) ∧ Aside0 (kq ≤ kj22) ∧ Aside0 (Kd.R Kd.string 9 w' w.heap.size (fun k_ => some k_ ≠ ((.slice Ao24 x6_8.length co24) : Value).ownBlock) v324 y323) ∧ Aside0 (Kd.R Kd.string 9 w' w.heap.size (fun k_ => some k_ ≠ (v324 : Value).ownBlock) (.slice Ao24 x6_8.length co24) x6_8) ∧ Aside0 (Kd.R k31 31 w' w.heap.size (fun _ => True) v333 t331) ∧ Aside0 (Below w.heap.size w w'))
         case atStart => exact ⟨(0), (by first | rfl | (simp; done) | (simp [*]; done)), H', ⟨Nat.le_refl _⟩, ⟨by (with_reducible repeat (first | apply Kd.R_alloc | apply Kd.R_drewN | apply Kd.R_drew)); exact HO_5.out⟩, ⟨by (with_reducible repeat (first | apply Kd.R_alloc | apply Kd.R_drewN | apply Kd.R_drew)); exact HO_6.out⟩, ⟨by (with_reducible repeat (first | apply Kd.R_alloc | apply Kd.R_drewN | apply Kd.R_drew)); exact HO_8.out⟩, ⟨bh_ HB⟩⟩
         case round =>
          clear H'
          try clear c1
          try clear c2
          try clear p2
          try clear c3
          try clear p3
          try clear q3
          try clear hx3
          try clear c4
          try clear c4b0
          try clear c4b1
          try clear c6
          try clear p6
          try clear c8
          try clear c11
          try clear c12
          try clear c12b0
          try clear c13
          try clear c13b0
          try clear c14
          try clear c14b0
          try clear c15
          try clear c15b0
          try clear c15b1
          try clear c15b2
          try clear c16
          try clear c16b0
          try clear c16b1
          try clear c16b2
          try clear c17
          try clear c26
          try clear c28
          try clear hx326_0
          try clear hx327_0
          try clear p2
          try clear p3
          try clear p326
          try clear p327
          try clear p6
          try clear q3
          try clear q326
          try clear q327
          obtain ⟨x10_4, rfl, HA, HK4, HO_5, HO_6, HO_8, HB⟩ := hrel
          cases gk with
          | zero => exact absurd HA.out (by simp [salvorlaw9_ArgKeys.l1])
          | succ k4 =>
           have H := HA.out
           clear HA
           simp only [salvorlaw9_ArgKeys.l1] at H
           by_cases c29 : x10_4 < (t331.length : Int)
           ·rw [if_pos c29] at H
            have c29b0 : decide (x10_4 < (t331.length : Int)) = true := decide_eq_true c29
            clear c29
            by_cases c30 : 0 ≤ x10_4
            ·rw [if_pos c30] at H
             have c30b0 : decide (0 ≤ x10_4) = true := decide_eq_true c30
             clear c30
             by_cases c31 : x10_4 < (y323.length : Int)
             ·rw [if_pos c31] at H
              have c31b0 : decide (x10_4 < (y323.length : Int)) = true := decide_eq_true c31
              clear c31
              replace H := Option.bind_eq_some_iff.mp H
              obtain ⟨⟨t336, t337⟩, A320, H⟩ := H
              replace H : (if t337 = true then (if x10_4 < (l0.length : Int) then (if t336.toList = (rdOf ByteArray.empty l0 x10_4).toList then (if ((rd_T31 t331 x10_4).f0).toList = (rdOf ByteArray.empty y323 x10_4).toList then (salvorlaw9_ArgKeys.l1 k4 l0 a1 y323 x6_8 t331 (wrap64 (x10_4 + 1))) else (some false)) else (some false)) else (none)) else (some false)) = some r := H
              have A32 := Aside0.mk A320
              clear A320
              by_cases c33 : t337 = true
              ·subst c33
               have H1 : (if x10_4 < (l0.length : Int) then (if t336.toList = (rdOf ByteArray.empty l0 x10_4).toList then (if ((rd_T31 t331 x10_4).f0).toList = (rdOf ByteArray.empty y323 x10_4).toList then (salvorlaw9_ArgKeys.l1 k4 l0 a1 y323 x6_8 t331 (wrap64 (x10_4 + 1))) else (some false)) else (some false)) else (none)) = some r := by rw [if_pos rfl] at H; exact H
               clear H
               have H := H1
               clear H1
               by_cases c34 : x10_4 < (l0.length : Int)
               ·rw [if_pos c34] at H
                have c34b0 : decide (x10_4 < (l0.length : Int)) = true := decide_eq_true c34
                clear c34
                by_cases c35 : t336.toList = (rdOf ByteArray.empty l0 x10_4).toList
                ·rw [if_pos c35] at H
                 have c35b0 : (t336.toList == (rdOf ByteArray.empty l0 x10_4).toList) = true := beq_iff_eq.mpr c35
                 have c35b1 : (t336.toList != (rdOf ByteArray.empty l0 x10_4).toList) = false := bne_eq_false_iff_eq.mpr c35
                 clear c35
                 by_cases c36 : ((rd_T31 t331 x10_4).f0).toList = (rdOf ByteArray.empty y323 x10_4).toList
                 ·rw [if_pos c36] at H
                  have c36b0 : (((rd_T31 t331 x10_4).f0).toList == (rdOf ByteArray.empty y323 x10_4).toList) = true := beq_iff_eq.mpr c36
                  have c36b1 : (((rd_T31 t331 x10_4).f0).toList != (rdOf ByteArray.empty y323 x10_4).toList) = false := bne_eq_false_iff_eq.mpr c36
                  clear c36
                  have H' := Aside0.mk H
                  clear H
                  obtain ⟨Ao37, co37, eo37⟩ := Kd.R_slice HO_8.out
                  subst eo37
                  obtain ⟨Ao38, co38, eo38⟩ := Kd.R_slice HO_5.out
                  subst eo38
                  have p335 : 0 ≤ (x10_4 : Int) := of_decide_eq_true (by first | (with_reducible assumption) | assumption)
                  have q335 : x10_4 < (y323.length : Int) := of_decide_eq_true (by first | (with_reducible assumption) | assumption)
                  obtain ⟨ad335, e335, hx335_0⟩ := Kd.at_string (Kd.R_reads' HO_5.out).2.2 x10_4 p335 q335
                  cases e335
                  replace p335 := eq_true p335
                  replace q335 := eq_true q335
                  try go_wp2_with (first | ((with_reducible refine gate_callee (f := 18) rfl ?_); refine gl_ (some 77) rfl rfl Tryd.func18 (by kernel_rfl) rfl #[.slice Ao37 t331.length co37, .string (rdOf ByteArray.empty y323 x10_4)] rfl ?_; (with_reducible refine (arg_Find.calls _ _ t331 (rdOf ByteArray.empty y323 x10_4) t336 true _ ?side1 ?side2 A32.out).mono ?_); (case side1 => repeat (first | exact (Kd.R_reads' HO_8.out).2.2 | (with_reducible refine Kd.C_alloc ?_ _) | (with_reducible refine Kd.C_drewN ?_ _) | (with_reducible refine Kd.C_drew ?_))); (case side2 => exact (Kd.R_reads' HO_8.out).2.1); rintro e w39 ⟨rfl, hb⟩; refine ⟨_, rfl, ?_⟩; have n0_ := Aside0.mk (Kd.R_below (by (with_reducible repeat (first | apply Kd.R_alloc | apply Kd.R_drewN | apply Kd.R_drew)); exact HO_5.out) hb); have n1_ := Aside0.mk (Kd.R_below (by (with_reducible repeat (first | apply Kd.R_alloc | apply Kd.R_drewN | apply Kd.R_drew)); exact HO_6.out) hb); have n2_ := Aside0.mk (Kd.R_below (by (with_reducible repeat (first | apply Kd.R_alloc | apply Kd.R_drewN | apply Kd.R_drew)); exact HO_8.out) hb); have n3_ := bs_ HB hb; clear HO_5; clear HO_6; clear HO_8; clear HB; have HO_5 := n0_; have HO_6 := n1_; have HO_8 := n2_; have HB := n3_; clear n0_ n1_ n2_ n3_; (try clear hb)))
                  replace HO_5 := Aside0.mk (Kd.R_drew HO_5.out)
                  replace HO_6 := Aside0.mk (Kd.R_drew HO_6.out)
                  replace HO_8 := Aside0.mk (Kd.R_drew HO_8.out)
                  replace HB := Aside0.mk (below_drew1 HB.out)
                  have p338 : 0 ≤ (x10_4 : Int) := of_decide_eq_true (by first | (with_reducible assumption) | assumption)
                  have q338 : x10_4 < (l0.length : Int) := of_decide_eq_true (by first | (with_reducible assumption) | assumption)
                  obtain ⟨ad338, e338, hx338_0⟩ := Kd.at_string HR0.out x10_4 p338 q338
                  have hw338_0 := hx338_0
                  cases e338
                  replace hx338_0 := (HB.out.cell (World.block_lt_of_cell? w _ hx338_0)).trans hx338_0
                  replace p338 := eq_true p338
                  replace q338 := eq_true q338
                  have p339 : 0 ≤ (x10_4 : Int) := of_decide_eq_true (by first | (with_reducible assumption) | assumption)
                  have q339 : x10_4 < (t331.length : Int) := of_decide_eq_true (by first | (with_reducible assumption) | assumption)
                  obtain ⟨ad339, e339, hx339_0, hx339_1⟩ := at_T31 (Kd.R_reads' HO_8.out).2.2 x10_4 p339 q339
                  cases e339
                  replace p339 := eq_true p339
                  replace q339 := eq_true q339
                  have p340 : 0 ≤ (x10_4 : Int) := of_decide_eq_true (by first | (with_reducible assumption) | assumption)
                  have q340 : x10_4 < (y323.length : Int) := of_decide_eq_true (by first | (with_reducible assumption) | assumption)
                  obtain ⟨ad340, e340, hx340_0⟩ := Kd.at_string (Kd.R_reads' HO_5.out).2.2 x10_4 p340 q340
                  obtain rfl : ad335 = ad340 := (by injection e340)
                  replace p340 := eq_true p340
                  replace q340 := eq_true q340
                  refine start_ (n := 22) (S := fun w' => w'.cell? (ad338.add (x10_4).toNat) = some (.string (rdOf ByteArray.empty l0 x10_4)) ∧ w'.cell? (ad339.add ((x10_4).toNat * 2)) = some (.string ((rd_T31 t331 x10_4).f0)) ∧ w'.cell? ⟨(ad339.add ((x10_4).toNat * 2)).block, (ad339.add ((x10_4).toNat * 2)).off + 1, none⟩ = some (.string ((rd_T31 t331 x10_4).f1)) ∧ w'.cell? (ad335.add (x10_4).toNat) = some (.string (rdOf ByteArray.empty y323 x10_4))) (ds := []) #[false, false, false, false, false, false, false, false, false, false, false, false, false, false, false, false, false, false, false, false, false, false] (by kernel_rfl) rfl rfl ⟨((HB.out.cell (World.block_lt_of_cell? w _ hw338_0)).trans hw338_0), hx339_0, hx339_1, hx340_0⟩ (fun hHeld => ?_); refine with_tabW salvorlaw9_ArgKeys.tab16 salvorlaw9_ArgKeys.bits16 (fun HT_ HW_ => ?_)
                  generalize w39.drew = w40 at HO_5 HO_6 HO_8 HB hx338_0 hx339_0 hx339_1 hx340_0 hHeld ⊢
                  refine pu_ 0 80 (lb_ 22 1) rfl rfl (ao_ HT_) ?_
                  refine pu_ 1 81 (lb_ 22 3) rfl rfl (ao_ HT_) ?_
                  refine pu_ 2 82 (lb_ 22 7) rfl rfl (ao_ HT_) ?_
                  refine pu_ 3 83 (lb_ 22 15) rfl rfl (ao_ HT_) ?_
                  refine pu_ 4 84 (lb_ 22 31) rfl rfl (ao_ HT_) ?_
                  refine pu_ 5 85 (lb_ 22 63) rfl rfl (ao_ HT_) ?_
                  refine pu_ 6 86 (lb_ 22 127) rfl rfl (ao_ HT_) ?_
                  refine tk_ 7 87 (lb_ 22 255) rfl rfl (take_ofW HT_.out HW_.out (by kernel_rfl)) hHeld ?_
                  refine pu_ 8 88 (lb_ 22 511) rfl rfl (ao_ HT_) ?_
                  refine pu_ 9 89 (lb_ 22 1023) rfl rfl (ao_ HT_) ?_
                  refine pu_ 10 90 (lb_ 22 2047) rfl rfl (ao_ HT_) ?_
                  refine pu_ 11 91 (lb_ 22 4095) rfl rfl (ao_ HT_) ?_
                  refine pu_ 12 92 (lb_ 22 8191) rfl rfl (ao_ HT_) ?_
                  refine pu_ 13 93 (lb_ 22 16383) rfl rfl (ao_ HT_) ?_
                  refine pu_ 14 94 (lb_ 22 32767) rfl rfl (ao_ HT_) ?_
                  refine pu_ 16 96 (lb_ 22 98303) rfl rfl (ao_ HT_) ?_
                  refine pu_ 17 97 (lb_ 22 229375) rfl rfl (ao_ HT_) ?_
                  refine pu_ 18 98 (lb_ 22 491519) rfl rfl (ao_ HT_) ?_
                  refine tk_ 15 95 (lb_ 22 524287) rfl rfl (take_ofW HT_.out HW_.out (by kernel_rfl)) hHeld ?_
                  refine tk_ 19 99 (lb_ 22 1048575) rfl rfl (take_ofW HT_.out HW_.out (by kernel_rfl)) hHeld ?_
                  refine pu_ 20 100 (lb_ 22 2097151) rfl rfl (ao_ HT_) ?_
                  refine pu_ 21 101 (lb_ 22 4194303) rfl rfl (ao_ HT_) ?_
                  refine done_ (done_of HT_.out (by kernel_rfl)) ?_
                  try go_wp2
                  go_roundg k4
                  case measure => have := HJ2.out; have := HJ8.out; have := HJ22.out; have := HK4.out; omega
                  case rel => exact ⟨(wrap64 (x10_4 + 1)), (by first | rfl | (simp; done) | (simp [*]; done)), H', ⟨by have := HJ2.out; have := HJ8.out; have := HJ22.out; have := HK4.out; omega⟩, ⟨by (with_reducible repeat (first | apply Kd.R_alloc | apply Kd.R_drewN | apply Kd.R_drew)); exact HO_5.out⟩, ⟨by (with_reducible repeat (first | apply Kd.R_alloc | apply Kd.R_drewN | apply Kd.R_drew)); exact HO_6.out⟩, ⟨by (with_reducible repeat (first | apply Kd.R_alloc | apply Kd.R_drewN | apply Kd.R_drew)); exact HO_8.out⟩, ⟨bh_ HB⟩⟩
                 ·rw [if_neg c36] at H
                  have c36b0 : (((rd_T31 t331 x10_4).f0).toList == (rdOf ByteArray.empty y323 x10_4).toList) = false := beq_eq_false_iff_ne.mpr c36
                  have c36b1 : (((rd_T31 t331 x10_4).f0).toList != (rdOf ByteArray.empty y323 x10_4).toList) = true := bne_iff_ne.mpr c36
                  exact absurd ((Option.some.inj H).trans HT.out) (by simp)
                ·rw [if_neg c35] at H
                 have c35b0 : (t336.toList == (rdOf ByteArray.empty l0 x10_4).toList) = false := beq_eq_false_iff_ne.mpr c35
                 have c35b1 : (t336.toList != (rdOf ByteArray.empty l0 x10_4).toList) = true := bne_iff_ne.mpr c35
                 exact absurd ((Option.some.inj H).trans HT.out) (by simp)
               ·rw [if_neg c34] at H
                exact absurd H (by simp)
              ·replace c33 := Bool.eq_false_iff.mpr c33
               subst c33
               have H1 : (some false) = some r := by rw [if_neg (show ¬ (false = true) by decide)] at H; exact H
               clear H
               have H := H1
               clear H1
               exact absurd ((Option.some.inj H).trans HT.out) (by simp)
             ·rw [if_neg c31] at H
              exact absurd H (by simp)
            ·rw [if_neg c30] at H
             exact absurd H (by simp)
           ·rw [if_neg c29] at H
            have c29b0 : decide (x10_4 < (t331.length : Int)) = false := decide_eq_false c29
            clear c29
            by_cases c41 : (x6_8.length : Int) = 0
            ·rw [if_pos c41] at H
             have c41b0 : ((x6_8.length : Int) == 0) = true := beq_iff_eq.mpr c41
             have c41b1 : ((x6_8.length : Int) != 0) = false := bne_eq_false_iff_eq.mpr c41
             clear c41
             replace H := Option.bind_eq_some_iff.mp H
             obtain ⟨t341, A420, H⟩ := H
             replace H : (some t341) = some r := H
             have A42 := Aside0.mk A420
             clear A420
             obtain rfl := Option.some.inj H
             obtain ⟨Ao43, co43, eo43⟩ := Kd.R_slice HO_8.out
             subst eo43
             go_wp2_with (first | ((with_reducible refine gate_callee (f := 3) rfl ?_); refine gl_ (some 105) rfl rfl Tryd.func3 (by kernel_rfl) rfl #[] rfl ?_; (with_reducible refine (salvorlaw9_ArgRuns.calls k4  t341 _ A42.out ?tb6_).mono ?_); (case tb6_ => exact tb_ HTAB HB); rintro e w44 ⟨rfl, hb⟩; refine ⟨_, rfl, ?_⟩; have n0_ := Aside0.mk (Kd.R_below (by (with_reducible repeat (first | apply Kd.R_alloc | apply Kd.R_drewN | apply Kd.R_drew)); exact HO_5.out) hb); have n1_ := Aside0.mk (Kd.R_below (by (with_reducible repeat (first | apply Kd.R_alloc | apply Kd.R_drewN | apply Kd.R_drew)); exact HO_6.out) hb); have n2_ := Aside0.mk (Kd.R_below (by (with_reducible repeat (first | apply Kd.R_alloc | apply Kd.R_drewN | apply Kd.R_drew)); exact HO_8.out) hb); have n3_ := bs_ HB hb; clear HO_5; clear HO_6; clear HO_8; clear HB; have HO_5 := n0_; have HO_6 := n1_; have HO_8 := n2_; have HB := n3_; clear n0_ n1_ n2_ n3_; (try clear hb)))
             go_ret
             exact ⟨by first | rfl | (simp [errW_none, errW_some] <;> rfl) | (simp [*, errW_none, errW_some] <;> rfl), bh_ HB⟩
            ·rw [if_neg c41] at H
             have c41b0 : ((x6_8.length : Int) == 0) = false := beq_eq_false_iff_ne.mpr c41
             have c41b1 : ((x6_8.length : Int) != 0) = true := bne_iff_ne.mpr c41
             have c41b2 : ¬ (x6_8 = []) := fun h_ => c41 (by rw [h_]; rfl)
             obtain ⟨ji45, hji45⟩ : ∃ j_ : Int, (Int.tmod (wrap64 (a1)) (x6_8.length : Int)) = j_ := ⟨_, rfl⟩
             replace H : (if 0 ≤ (ji45) then (if (ji45) < (x6_8.length : Int) then (if x6_8.length < 8796093022208 then ((arg_Operands.f k4 (x6_8 ++ [rdOf ByteArray.empty x6_8 (ji45)])).bind fun bt346 => (if (ji45) = 3 then (if (bt346.2 == true) = true then (if bt346.2 = true then (if (bt346.1.length : Int) = (wrap64 ((x6_8.length : Int) + 1)) then ((salvorlaw9_ArgRuns.f k4).bind fun t350 => (some t350)) else (some false)) else (if (bt346.1.length : Int) = 0 then ((salvorlaw9_ArgRuns.f k4).bind fun t351 => (some t351)) else (some false))) else (some false)) else (if (bt346.2 == ((ji45) == 4)) = true then (if bt346.2 = true then (if (bt346.1.length : Int) = (wrap64 ((x6_8.length : Int) + 1)) then ((salvorlaw9_ArgRuns.f k4).bind fun t352 => (some t352)) else (some false)) else (if (bt346.1.length : Int) = 0 then ((salvorlaw9_ArgRuns.f k4).bind fun t353 => (some t353)) else (some false))) else (some false)))) else (none)) else (none)) else (none)) = some r := by first | (rw [hji45] at H; exact H) | (simp only [hji45] at H ⊢; exact H)
             by_cases c46 : 0 ≤ (ji45)
             ·rw [if_pos c46] at H
              have c46b0 : decide (0 ≤ (ji45)) = true := decide_eq_true c46
              clear c46
              by_cases c47 : (ji45) < (x6_8.length : Int)
              ·rw [if_pos c47] at H
               have c47b0 : decide ((ji45) < (x6_8.length : Int)) = true := decide_eq_true c47
               clear c47
               by_cases c48 : x6_8.length < 8796093022208
               ·rw [if_pos c48] at H
                have LMc48 := Aside0.mk c48
                clear c48
                obtain ⟨y343, hy343⟩ : ∃ y_ : List ByteArray, y_ = (x6_8 ++ [rdOf ByteArray.empty x6_8 (ji45)]) := ⟨_, rfl⟩
                replace H : ((arg_Operands.f k4 y343).bind fun bt346 => (if (ji45) = 3 then (if (bt346.2 == true) = true then (if bt346.2 = true then (if (bt346.1.length : Int) = (wrap64 ((x6_8.length : Int) + 1)) then ((salvorlaw9_ArgRuns.f k4).bind fun t350 => (some t350)) else (some false)) else (if (bt346.1.length : Int) = 0 then ((salvorlaw9_ArgRuns.f k4).bind fun t351 => (some t351)) else (some false))) else (some false)) else (if (bt346.2 == ((ji45) == 4)) = true then (if bt346.2 = true then (if (bt346.1.length : Int) = (wrap64 ((x6_8.length : Int) + 1)) then ((salvorlaw9_ArgRuns.f k4).bind fun t352 => (some t352)) else (some false)) else (if (bt346.1.length : Int) = 0 then ((salvorlaw9_ArgRuns.f k4).bind fun t353 => (some t353)) else (some false))) else (some false)))) = some r := by first | (rw [hy343]; with_reducible exact H) | (have H2_ := (Option.bind_some _ _).symm.trans H; rw [hy343]; with_reducible exact H2_) | (have H2_ := (Option.bind_some _ _).symm.trans H; with_reducible exact H2_) | with_reducible exact H | (rw [hy343]; exact H) | exact H
                have Ny343 := Aside0.mk hy343
                clear hy343
                replace H := Option.bind_eq_some_iff.mp H
                obtain ⟨⟨t346, t347⟩, A490, H⟩ := H
                replace H : (if (ji45) = 3 then (if (t347 == true) = true then (if t347 = true then (if (t346.length : Int) = (wrap64 ((x6_8.length : Int) + 1)) then ((salvorlaw9_ArgRuns.f k4).bind fun t350 => (some t350)) else (some false)) else (if (t346.length : Int) = 0 then ((salvorlaw9_ArgRuns.f k4).bind fun t351 => (some t351)) else (some false))) else (some false)) else (if (t347 == ((ji45) == 4)) = true then (if t347 = true then (if (t346.length : Int) = (wrap64 ((x6_8.length : Int) + 1)) then ((salvorlaw9_ArgRuns.f k4).bind fun t352 => (some t352)) else (some false)) else (if (t346.length : Int) = 0 then ((salvorlaw9_ArgRuns.f k4).bind fun t353 => (some t353)) else (some false))) else (some false))) = some r := H
                have A49 := Aside0.mk A490
                clear A490
                by_cases c50 : (ji45) = 3
                ·rw [if_pos c50] at H
                 have c50b0 : ((ji45) == 3) = true := beq_iff_eq.mpr c50
                 have c50b1 : ((ji45) != 3) = false := bne_eq_false_iff_eq.mpr c50
                 clear c50
                 by_cases c51 : (t347 == true) = true
                 ·rw [if_pos c51] at H
                  have c51b0 : (t347 == true) = true := c51
                  (try (have c51b1 : decide (t347 = true) = true := by simpa using c51))
                  (try (have c51b2 : (t347 == true) = true := by simpa using c51))
                  clear c51
                  by_cases c52 : t347 = true
                  ·subst c52
                   have H1 : (if (t346.length : Int) = (wrap64 ((x6_8.length : Int) + 1)) then ((salvorlaw9_ArgRuns.f k4).bind fun t350 => (some t350)) else (some false)) = some r := by rw [if_pos rfl] at H; exact H
                   clear H
                   have H := H1
                   clear H1
                   by_cases c53 : (t346.length : Int) = (wrap64 ((x6_8.length : Int) + 1))
                   ·rw [if_pos c53] at H
                    have c53b0 : ((t346.length : Int) == (wrap64 ((x6_8.length : Int) + 1))) = true := beq_iff_eq.mpr c53
                    have c53b1 : ((t346.length : Int) != (wrap64 ((x6_8.length : Int) + 1))) = false := bne_eq_false_iff_eq.mpr c53
                    clear c53
                    replace H := Option.bind_eq_some_iff.mp H
                    obtain ⟨t350, A540, H⟩ := H
                    replace H : (some t350) = some r := H
                    have A54 := Aside0.mk A540
                    clear A540
                    obtain rfl := Option.some.inj H
                    obtain ⟨Ao55, co55, eo55⟩ := Kd.R_slice HO_8.out
                    subst eo55
                    have p342 : 0 ≤ ((ji45) : Int) := of_decide_eq_true (by first | (with_reducible assumption) | assumption)
                    have q342 : (ji45) < (x6_8.length : Int) := of_decide_eq_true (by first | (with_reducible assumption) | assumption)
                    obtain ⟨ad342, e342, hx342_0⟩ := Kd.at_string (Kd.R_reads' HO_6.out).2.2 (ji45) p342 q342
                    cases e342
                    replace p342 := eq_true p342
                    replace q342 := eq_true q342
                    go_wp2_with (first | ((with_reducible refine gate_builtin (b := .append) (xs := #[.tmp 112, .tmp 117]) rfl ?_); (try (refine gate_guard (by rfl) ?_; dsimp only)); at_builtin; refine Kd.R_append Kd.string (w0 := w) w.heap.size rfl (.tmp 112) (.tmp 117) 23 9 (.string ⟨#[]⟩) 16 rfl Tryd.underlying23 info9 rfl (by decide) (by omega) (.slice (some ad342) x6_8.length co24) x6_8 (rdOf ByteArray.empty x6_8 (ji45)) [.string (rdOf ByteArray.empty x6_8 (ji45))] (fun k_ => some k_ ≠ (v324 : Value).ownBlock) (fun _ => False) rfl rfl ?aP (fun _ hk => hk.elim) ?aF ?aO ?aB ?aS ?aL ?_; (case aP => exact rfl); (case aB => exact (bh_ HB)); (case aF => exact (fun k_ hk => Kd.fresh' (Kd.R_lt (by (with_reducible repeat (first | apply Kd.R_alloc | apply Kd.R_drewN | apply Kd.R_drew)); exact HO_5.out)) k_ hk)); (case aO => exact (by (with_reducible repeat (first | apply Kd.R_alloc | apply Kd.R_drewN | apply Kd.R_drew)); exact HO_6.out)); (case aS => exact (below_size (bh_ HB))); (case aL => have := LMc48.out; omega); intro v344 w56 ho hb hg hat; rw [← Ny343.out] at ho; have n0_ := Aside0.mk (Kd.R_after (ok := (fun _ => True)) (by (with_reducible repeat (first | apply Kd.R_alloc | apply Kd.R_drewN | apply Kd.R_drew)); exact Kd.R_mono HO_5.out (fun _ hk => ⟨trivial, hk⟩)) hg hat); have n1_ := Aside0.mk (Kd.R_over' (by (with_reducible repeat (first | apply Kd.R_alloc | apply Kd.R_drewN | apply Kd.R_drew)); exact HO_8.out) (Kd.R_typed (by (with_reducible repeat (first | apply Kd.R_alloc | apply Kd.R_drewN | apply Kd.R_drew)); exact HO_6.out)) (by decide) hg); have n2_ := Aside0.mk (hb); have n3_ := Aside0.mk (ho); clear HO_5; clear HO_8; clear HB; clear HO_6; have HO_5 := n0_; have HO_8 := n1_; have HB := n2_; have HO345 := n3_; clear n0_ n1_ n2_ n3_; clear ho hb hg hat; obtain ⟨Ao57, co57, eo57⟩ := Kd.R_slice HO345.out; subst eo57) | ((with_reducible refine gate_callee (f := 11) rfl ?_); refine gl_ (some 119) rfl rfl Tryd.func11 (by kernel_rfl) rfl #[.slice Ao57 y343.length co57] rfl ?_; (with_reducible refine (arg_Operands.calls k4 _ _ y343 t346 true _ ?side1 ?side2 A49.out ?tb8_).mono ?_); (case tb8_ => exact tb_ HTAB HB); (case side1 => repeat (first | exact (Kd.R_reads' HO345.out).2.2 | (with_reducible refine Kd.C_alloc ?_ _) | (with_reducible refine Kd.C_drewN ?_ _) | (with_reducible refine Kd.C_drew ?_))); (case side2 => exact (Kd.R_reads' HO345.out).2.1); rintro e w58 ⟨v348, rfl, ho0, hb⟩; refine ⟨_, rfl, ?_⟩; have n0_ := Aside0.mk (Kd.R_below (by (with_reducible repeat (first | apply Kd.R_alloc | apply Kd.R_drewN | apply Kd.R_drew)); exact HO_5.out) hb); have n1_ := Aside0.mk (Kd.R_elder' (by (with_reducible repeat (first | apply Kd.R_alloc | apply Kd.R_drewN | apply Kd.R_drew)); exact HO_8.out) (Kd.R_base ho0) hb); have n2_ := Aside0.mk (Kd.R_below (by (with_reducible repeat (first | apply Kd.R_alloc | apply Kd.R_drewN | apply Kd.R_drew)); exact HO345.out) hb); have n3_ := Aside0.mk (Kd.R_lower (Kd.R_new' ho0 (Kd.R_lt (by (with_reducible repeat (first | apply Kd.R_alloc | apply Kd.R_drewN | apply Kd.R_drew)); exact HO_8.out))) (below_size (bh_ HB))); have n4_ := bs_ HB hb; clear HO_5; clear HO_8; clear HO345; clear HB; have HO_5 := n0_; have HO_8 := n1_; have HO345 := n2_; have HO349 := n3_; have HB := n4_; clear n0_ n1_ n2_ n3_ n4_; (try clear hb); (try clear hb2); (try clear hk); (try clear hi); (try clear ho0); obtain ⟨Ao59, co59, eo59⟩ := Kd.R_slice HO349.out; subst eo59) | (go_at_call 3; (with_reducible refine (salvorlaw9_ArgRuns.calls k4  t350 _ A54.out ?tb10_).mono ?_); (case tb10_ => exact tb_ HTAB HB); rintro e w60 ⟨rfl, hb⟩; have n0_ := Aside0.mk (Kd.R_below (by (with_reducible repeat (first | apply Kd.R_alloc | apply Kd.R_drewN | apply Kd.R_drew)); exact HO_5.out) hb); have n1_ := Aside0.mk (Kd.R_below (by (with_reducible repeat (first | apply Kd.R_alloc | apply Kd.R_drewN | apply Kd.R_drew)); exact HO_8.out) hb); have n2_ := Aside0.mk (Kd.R_below (by (with_reducible repeat (first | apply Kd.R_alloc | apply Kd.R_drewN | apply Kd.R_drew)); exact HO345.out) hb); have n3_ := Aside0.mk (Kd.R_below (by (with_reducible repeat (first | apply Kd.R_alloc | apply Kd.R_drewN | apply Kd.R_drew)); exact HO349.out) hb); have n4_ := bs_ HB hb; clear HO_5; clear HO_8; clear HO345; clear HO349; clear HB; have HO_5 := n0_; have HO_8 := n1_; have HO345 := n2_; have HO349 := n3_; have HB := n4_; clear n0_ n1_ n2_ n3_ n4_; (try clear hb)))
                    go_ret
                    exact ⟨by first | rfl | (simp [errW_none, errW_some] <;> rfl) | (simp only [← hji45]; first | rfl | (simp [errW_none, errW_some] <;> rfl)) | (simp [*, errW_none, errW_some] <;> rfl), bh_ HB⟩
                   ·rw [if_neg c53] at H
                    have c53b0 : ((t346.length : Int) == (wrap64 ((x6_8.length : Int) + 1))) = false := beq_eq_false_iff_ne.mpr c53
                    have c53b1 : ((t346.length : Int) != (wrap64 ((x6_8.length : Int) + 1))) = true := bne_iff_ne.mpr c53
                    exact absurd ((Option.some.inj H).trans HT.out) (by simp)
                  ·replace c52 := Bool.eq_false_iff.mpr c52
                   subst c52
                   have H1 : (if (t346.length : Int) = 0 then ((salvorlaw9_ArgRuns.f k4).bind fun t351 => (some t351)) else (some false)) = some r := by rw [if_neg (show ¬ (false = true) by decide)] at H; exact H
                   clear H
                   have H := H1
                   clear H1
                   by_cases c61 : (t346.length : Int) = 0
                   ·rw [if_pos c61] at H
                    have c61b0 : ((t346.length : Int) == 0) = true := beq_iff_eq.mpr c61
                    have c61b1 : ((t346.length : Int) != 0) = false := bne_eq_false_iff_eq.mpr c61
                    clear c61
                    replace H := Option.bind_eq_some_iff.mp H
                    obtain ⟨t351, A620, H⟩ := H
                    replace H : (some t351) = some r := H
                    have A62 := Aside0.mk A620
                    clear A620
                    obtain rfl := Option.some.inj H
                    obtain ⟨Ao63, co63, eo63⟩ := Kd.R_slice HO_8.out
                    subst eo63
                    have p342 : 0 ≤ ((ji45) : Int) := of_decide_eq_true (by first | (with_reducible assumption) | assumption)
                    have q342 : (ji45) < (x6_8.length : Int) := of_decide_eq_true (by first | (with_reducible assumption) | assumption)
                    obtain ⟨ad342, e342, hx342_0⟩ := Kd.at_string (Kd.R_reads' HO_6.out).2.2 (ji45) p342 q342
                    cases e342
                    replace p342 := eq_true p342
                    replace q342 := eq_true q342
                    go_wp2_with (first | ((with_reducible refine gate_builtin (b := .append) (xs := #[.tmp 112, .tmp 117]) rfl ?_); (try (refine gate_guard (by rfl) ?_; dsimp only)); at_builtin; refine Kd.R_append Kd.string (w0 := w) w.heap.size rfl (.tmp 112) (.tmp 117) 23 9 (.string ⟨#[]⟩) 16 rfl Tryd.underlying23 info9 rfl (by decide) (by omega) (.slice (some ad342) x6_8.length co24) x6_8 (rdOf ByteArray.empty x6_8 (ji45)) [.string (rdOf ByteArray.empty x6_8 (ji45))] (fun k_ => some k_ ≠ (v324 : Value).ownBlock) (fun _ => False) rfl rfl ?aP (fun _ hk => hk.elim) ?aF ?aO ?aB ?aS ?aL ?_; (case aP => exact rfl); (case aB => exact (bh_ HB)); (case aF => exact (fun k_ hk => Kd.fresh' (Kd.R_lt (by (with_reducible repeat (first | apply Kd.R_alloc | apply Kd.R_drewN | apply Kd.R_drew)); exact HO_5.out)) k_ hk)); (case aO => exact (by (with_reducible repeat (first | apply Kd.R_alloc | apply Kd.R_drewN | apply Kd.R_drew)); exact HO_6.out)); (case aS => exact (below_size (bh_ HB))); (case aL => have := LMc48.out; omega); intro v344 w64 ho hb hg hat; rw [← Ny343.out] at ho; have n0_ := Aside0.mk (Kd.R_after (ok := (fun _ => True)) (by (with_reducible repeat (first | apply Kd.R_alloc | apply Kd.R_drewN | apply Kd.R_drew)); exact Kd.R_mono HO_5.out (fun _ hk => ⟨trivial, hk⟩)) hg hat); have n1_ := Aside0.mk (Kd.R_over' (by (with_reducible repeat (first | apply Kd.R_alloc | apply Kd.R_drewN | apply Kd.R_drew)); exact HO_8.out) (Kd.R_typed (by (with_reducible repeat (first | apply Kd.R_alloc | apply Kd.R_drewN | apply Kd.R_drew)); exact HO_6.out)) (by decide) hg); have n2_ := Aside0.mk (hb); have n3_ := Aside0.mk (ho); clear HO_5; clear HO_8; clear HB; clear HO_6; have HO_5 := n0_; have HO_8 := n1_; have HB := n2_; have HO345 := n3_; clear n0_ n1_ n2_ n3_; clear ho hb hg hat; obtain ⟨Ao65, co65, eo65⟩ := Kd.R_slice HO345.out; subst eo65) | ((with_reducible refine gate_callee (f := 11) rfl ?_); refine gl_ (some 119) rfl rfl Tryd.func11 (by kernel_rfl) rfl #[.slice Ao65 y343.length co65] rfl ?_; (with_reducible refine (arg_Operands.calls k4 _ _ y343 t346 false _ ?side1 ?side2 A49.out ?tb12_).mono ?_); (case tb12_ => exact tb_ HTAB HB); (case side1 => repeat (first | exact (Kd.R_reads' HO345.out).2.2 | (with_reducible refine Kd.C_alloc ?_ _) | (with_reducible refine Kd.C_drewN ?_ _) | (with_reducible refine Kd.C_drew ?_))); (case side2 => exact (Kd.R_reads' HO345.out).2.1); rintro e w66 ⟨v348, rfl, ho0, hb⟩; refine ⟨_, rfl, ?_⟩; have n0_ := Aside0.mk (Kd.R_below (by (with_reducible repeat (first | apply Kd.R_alloc | apply Kd.R_drewN | apply Kd.R_drew)); exact HO_5.out) hb); have n1_ := Aside0.mk (Kd.R_elder' (by (with_reducible repeat (first | apply Kd.R_alloc | apply Kd.R_drewN | apply Kd.R_drew)); exact HO_8.out) (Kd.R_base ho0) hb); have n2_ := Aside0.mk (Kd.R_below (by (with_reducible repeat (first | apply Kd.R_alloc | apply Kd.R_drewN | apply Kd.R_drew)); exact HO345.out) hb); have n3_ := Aside0.mk (Kd.R_lower (Kd.R_new' ho0 (Kd.R_lt (by (with_reducible repeat (first | apply Kd.R_alloc | apply Kd.R_drewN | apply Kd.R_drew)); exact HO_8.out))) (below_size (bh_ HB))); have n4_ := bs_ HB hb; clear HO_5; clear HO_8; clear HO345; clear HB; have HO_5 := n0_; have HO_8 := n1_; have HO345 := n2_; have HO349 := n3_; have HB := n4_; clear n0_ n1_ n2_ n3_ n4_; (try clear hb); (try clear hb2); (try clear hk); (try clear hi); (try clear ho0); obtain ⟨Ao67, co67, eo67⟩ := Kd.R_slice HO349.out; subst eo67) | (go_at_call 3; (with_reducible refine (salvorlaw9_ArgRuns.calls k4  t351 _ A62.out ?tb14_).mono ?_); (case tb14_ => exact tb_ HTAB HB); rintro e w68 ⟨rfl, hb⟩; have n0_ := Aside0.mk (Kd.R_below (by (with_reducible repeat (first | apply Kd.R_alloc | apply Kd.R_drewN | apply Kd.R_drew)); exact HO_5.out) hb); have n1_ := Aside0.mk (Kd.R_below (by (with_reducible repeat (first | apply Kd.R_alloc | apply Kd.R_drewN | apply Kd.R_drew)); exact HO_8.out) hb); have n2_ := Aside0.mk (Kd.R_below (by (with_reducible repeat (first | apply Kd.R_alloc | apply Kd.R_drewN | apply Kd.R_drew)); exact HO345.out) hb); have n3_ := Aside0.mk (Kd.R_below (by (with_reducible repeat (first | apply Kd.R_alloc | apply Kd.R_drewN | apply Kd.R_drew)); exact HO349.out) hb); have n4_ := bs_ HB hb; clear HO_5; clear HO_8; clear HO345; clear HO349; clear HB; have HO_5 := n0_; have HO_8 := n1_; have HO345 := n2_; have HO349 := n3_; have HB := n4_; clear n0_ n1_ n2_ n3_ n4_; (try clear hb)))
                    go_ret
                    exact ⟨by first | rfl | (simp [errW_none, errW_some] <;> rfl) | (simp only [← hji45]; first | rfl | (simp [errW_none, errW_some] <;> rfl)) | (simp [*, errW_none, errW_some] <;> rfl), bh_ HB⟩
                   ·rw [if_neg c61] at H
                    have c61b0 : ((t346.length : Int) == 0) = false := beq_eq_false_iff_ne.mpr c61
                    have c61b1 : ((t346.length : Int) != 0) = true := bne_iff_ne.mpr c61
                    have c61b2 : ¬ (t346 = []) := fun h_ => c61 (by rw [h_]; rfl)
                    exact absurd ((Option.some.inj H).trans HT.out) (by simp)
                 ·rw [if_neg c51] at H
                  have c51b0 : (t347 == true) = false := by simpa using c51
                  (try (have c51b1 : decide (t347 = true) = false := by simpa using c51))
                  (try (have c51b2 : (t347 == true) = false := by simpa using c51))
                  (try (have c51b3 : ¬ (t347 = true) := by simpa using c51))
                  clear c51
                  exact absurd ((Option.some.inj H).trans HT.out) (by simp)
                ·rw [if_neg c50] at H
                 have c50b0 : ((ji45) == 3) = false := beq_eq_false_iff_ne.mpr c50
                 have c50b1 : ((ji45) != 3) = true := bne_iff_ne.mpr c50
                 by_cases c69 : (t347 == ((ji45) == 4)) = true
                 ·rw [if_pos c69] at H
                  have c69b0 : (t347 == ((ji45) == 4)) = true := c69
                  (try (have c69b1 : decide (t347 = ((ji45) == 4)) = true := by simpa using c69))
                  (try (have c69b2 : (t347 == ((ji45) == 4)) = true := by simpa using c69))
                  clear c69
                  by_cases c70 : t347 = true
                  ·subst c70
                   have H1 : (if (t346.length : Int) = (wrap64 ((x6_8.length : Int) + 1)) then ((salvorlaw9_ArgRuns.f k4).bind fun t352 => (some t352)) else (some false)) = some r := by rw [if_pos rfl] at H; exact H
                   clear H
                   have H := H1
                   clear H1
                   by_cases c71 : (t346.length : Int) = (wrap64 ((x6_8.length : Int) + 1))
                   ·rw [if_pos c71] at H
                    have c71b0 : ((t346.length : Int) == (wrap64 ((x6_8.length : Int) + 1))) = true := beq_iff_eq.mpr c71
                    have c71b1 : ((t346.length : Int) != (wrap64 ((x6_8.length : Int) + 1))) = false := bne_eq_false_iff_eq.mpr c71
                    clear c71
                    replace H := Option.bind_eq_some_iff.mp H
                    obtain ⟨t352, A720, H⟩ := H
                    replace H : (some t352) = some r := H
                    have A72 := Aside0.mk A720
                    clear A720
                    obtain rfl := Option.some.inj H
                    obtain ⟨Ao73, co73, eo73⟩ := Kd.R_slice HO_8.out
                    subst eo73
                    have p342 : 0 ≤ ((ji45) : Int) := of_decide_eq_true (by first | (with_reducible assumption) | assumption)
                    have q342 : (ji45) < (x6_8.length : Int) := of_decide_eq_true (by first | (with_reducible assumption) | assumption)
                    obtain ⟨ad342, e342, hx342_0⟩ := Kd.at_string (Kd.R_reads' HO_6.out).2.2 (ji45) p342 q342
                    cases e342
                    replace p342 := eq_true p342
                    replace q342 := eq_true q342
                    go_wp2_with (first | ((with_reducible refine gate_builtin (b := .append) (xs := #[.tmp 112, .tmp 117]) rfl ?_); (try (refine gate_guard (by rfl) ?_; dsimp only)); at_builtin; refine Kd.R_append Kd.string (w0 := w) w.heap.size rfl (.tmp 112) (.tmp 117) 23 9 (.string ⟨#[]⟩) 16 rfl Tryd.underlying23 info9 rfl (by decide) (by omega) (.slice (some ad342) x6_8.length co24) x6_8 (rdOf ByteArray.empty x6_8 (ji45)) [.string (rdOf ByteArray.empty x6_8 (ji45))] (fun k_ => some k_ ≠ (v324 : Value).ownBlock) (fun _ => False) rfl rfl ?aP (fun _ hk => hk.elim) ?aF ?aO ?aB ?aS ?aL ?_; (case aP => exact rfl); (case aB => exact (bh_ HB)); (case aF => exact (fun k_ hk => Kd.fresh' (Kd.R_lt (by (with_reducible repeat (first | apply Kd.R_alloc | apply Kd.R_drewN | apply Kd.R_drew)); exact HO_5.out)) k_ hk)); (case aO => exact (by (with_reducible repeat (first | apply Kd.R_alloc | apply Kd.R_drewN | apply Kd.R_drew)); exact HO_6.out)); (case aS => exact (below_size (bh_ HB))); (case aL => have := LMc48.out; omega); intro v344 w74 ho hb hg hat; rw [← Ny343.out] at ho; have n0_ := Aside0.mk (Kd.R_after (ok := (fun _ => True)) (by (with_reducible repeat (first | apply Kd.R_alloc | apply Kd.R_drewN | apply Kd.R_drew)); exact Kd.R_mono HO_5.out (fun _ hk => ⟨trivial, hk⟩)) hg hat); have n1_ := Aside0.mk (Kd.R_over' (by (with_reducible repeat (first | apply Kd.R_alloc | apply Kd.R_drewN | apply Kd.R_drew)); exact HO_8.out) (Kd.R_typed (by (with_reducible repeat (first | apply Kd.R_alloc | apply Kd.R_drewN | apply Kd.R_drew)); exact HO_6.out)) (by decide) hg); have n2_ := Aside0.mk (hb); have n3_ := Aside0.mk (ho); clear HO_5; clear HO_8; clear HB; clear HO_6; have HO_5 := n0_; have HO_8 := n1_; have HB := n2_; have HO345 := n3_; clear n0_ n1_ n2_ n3_; clear ho hb hg hat; obtain ⟨Ao75, co75, eo75⟩ := Kd.R_slice HO345.out; subst eo75) | ((with_reducible refine gate_callee (f := 11) rfl ?_); refine gl_ (some 119) rfl rfl Tryd.func11 (by kernel_rfl) rfl #[.slice Ao75 y343.length co75] rfl ?_; (with_reducible refine (arg_Operands.calls k4 _ _ y343 t346 true _ ?side1 ?side2 A49.out ?tb16_).mono ?_); (case tb16_ => exact tb_ HTAB HB); (case side1 => repeat (first | exact (Kd.R_reads' HO345.out).2.2 | (with_reducible refine Kd.C_alloc ?_ _) | (with_reducible refine Kd.C_drewN ?_ _) | (with_reducible refine Kd.C_drew ?_))); (case side2 => exact (Kd.R_reads' HO345.out).2.1); rintro e w76 ⟨v348, rfl, ho0, hb⟩; refine ⟨_, rfl, ?_⟩; have n0_ := Aside0.mk (Kd.R_below (by (with_reducible repeat (first | apply Kd.R_alloc | apply Kd.R_drewN | apply Kd.R_drew)); exact HO_5.out) hb); have n1_ := Aside0.mk (Kd.R_elder' (by (with_reducible repeat (first | apply Kd.R_alloc | apply Kd.R_drewN | apply Kd.R_drew)); exact HO_8.out) (Kd.R_base ho0) hb); have n2_ := Aside0.mk (Kd.R_below (by (with_reducible repeat (first | apply Kd.R_alloc | apply Kd.R_drewN | apply Kd.R_drew)); exact HO345.out) hb); have n3_ := Aside0.mk (Kd.R_lower (Kd.R_new' ho0 (Kd.R_lt (by (with_reducible repeat (first | apply Kd.R_alloc | apply Kd.R_drewN | apply Kd.R_drew)); exact HO_8.out))) (below_size (bh_ HB))); have n4_ := bs_ HB hb; clear HO_5; clear HO_8; clear HO345; clear HB; have HO_5 := n0_; have HO_8 := n1_; have HO345 := n2_; have HO349 := n3_; have HB := n4_; clear n0_ n1_ n2_ n3_ n4_; (try clear hb); (try clear hb2); (try clear hk); (try clear hi); (try clear ho0); obtain ⟨Ao77, co77, eo77⟩ := Kd.R_slice HO349.out; subst eo77) | (go_at_call 3; (with_reducible refine (salvorlaw9_ArgRuns.calls k4  t352 _ A72.out ?tb18_).mono ?_); (case tb18_ => exact tb_ HTAB HB); rintro e w78 ⟨rfl, hb⟩; have n0_ := Aside0.mk (Kd.R_below (by (with_reducible repeat (first | apply Kd.R_alloc | apply Kd.R_drewN | apply Kd.R_drew)); exact HO_5.out) hb); have n1_ := Aside0.mk (Kd.R_below (by (with_reducible repeat (first | apply Kd.R_alloc | apply Kd.R_drewN | apply Kd.R_drew)); exact HO_8.out) hb); have n2_ := Aside0.mk (Kd.R_below (by (with_reducible repeat (first | apply Kd.R_alloc | apply Kd.R_drewN | apply Kd.R_drew)); exact HO345.out) hb); have n3_ := Aside0.mk (Kd.R_below (by (with_reducible repeat (first | apply Kd.R_alloc | apply Kd.R_drewN | apply Kd.R_drew)); exact HO349.out) hb); have n4_ := bs_ HB hb; clear HO_5; clear HO_8; clear HO345; clear HO349; clear HB; have HO_5 := n0_; have HO_8 := n1_; have HO345 := n2_; have HO349 := n3_; have HB := n4_; clear n0_ n1_ n2_ n3_ n4_; (try clear hb)))
                    go_ret
                    exact ⟨by first | rfl | (simp [errW_none, errW_some] <;> rfl) | (simp only [← hji45]; first | rfl | (simp [errW_none, errW_some] <;> rfl)) | (simp [*, errW_none, errW_some] <;> rfl), bh_ HB⟩
                   ·rw [if_neg c71] at H
                    have c71b0 : ((t346.length : Int) == (wrap64 ((x6_8.length : Int) + 1))) = false := beq_eq_false_iff_ne.mpr c71
                    have c71b1 : ((t346.length : Int) != (wrap64 ((x6_8.length : Int) + 1))) = true := bne_iff_ne.mpr c71
                    exact absurd ((Option.some.inj H).trans HT.out) (by simp)
                  ·replace c70 := Bool.eq_false_iff.mpr c70
                   subst c70
                   have H1 : (if (t346.length : Int) = 0 then ((salvorlaw9_ArgRuns.f k4).bind fun t353 => (some t353)) else (some false)) = some r := by rw [if_neg (show ¬ (false = true) by decide)] at H; exact H
                   clear H
                   have H := H1
                   clear H1
                   by_cases c79 : (t346.length : Int) = 0
                   ·rw [if_pos c79] at H
                    have c79b0 : ((t346.length : Int) == 0) = true := beq_iff_eq.mpr c79
                    have c79b1 : ((t346.length : Int) != 0) = false := bne_eq_false_iff_eq.mpr c79
                    clear c79
                    replace H := Option.bind_eq_some_iff.mp H
                    obtain ⟨t353, A800, H⟩ := H
                    replace H : (some t353) = some r := H
                    have A80 := Aside0.mk A800
                    clear A800
                    obtain rfl := Option.some.inj H
                    obtain ⟨Ao81, co81, eo81⟩ := Kd.R_slice HO_8.out
                    subst eo81
                    have p342 : 0 ≤ ((ji45) : Int) := of_decide_eq_true (by first | (with_reducible assumption) | assumption)
                    have q342 : (ji45) < (x6_8.length : Int) := of_decide_eq_true (by first | (with_reducible assumption) | assumption)
                    obtain ⟨ad342, e342, hx342_0⟩ := Kd.at_string (Kd.R_reads' HO_6.out).2.2 (ji45) p342 q342
                    cases e342
                    replace p342 := eq_true p342
                    replace q342 := eq_true q342
                    go_wp2_with (first | ((with_reducible refine gate_builtin (b := .append) (xs := #[.tmp 112, .tmp 117]) rfl ?_); (try (refine gate_guard (by rfl) ?_; dsimp only)); at_builtin; refine Kd.R_append Kd.string (w0 := w) w.heap.size rfl (.tmp 112) (.tmp 117) 23 9 (.string ⟨#[]⟩) 16 rfl Tryd.underlying23 info9 rfl (by decide) (by omega) (.slice (some ad342) x6_8.length co24) x6_8 (rdOf ByteArray.empty x6_8 (ji45)) [.string (rdOf ByteArray.empty x6_8 (ji45))] (fun k_ => some k_ ≠ (v324 : Value).ownBlock) (fun _ => False) rfl rfl ?aP (fun _ hk => hk.elim) ?aF ?aO ?aB ?aS ?aL ?_; (case aP => exact rfl); (case aB => exact (bh_ HB)); (case aF => exact (fun k_ hk => Kd.fresh' (Kd.R_lt (by (with_reducible repeat (first | apply Kd.R_alloc | apply Kd.R_drewN | apply Kd.R_drew)); exact HO_5.out)) k_ hk)); (case aO => exact (by (with_reducible repeat (first | apply Kd.R_alloc | apply Kd.R_drewN | apply Kd.R_drew)); exact HO_6.out)); (case aS => exact (below_size (bh_ HB))); (case aL => have := LMc48.out; omega); intro v344 w82 ho hb hg hat; rw [← Ny343.out] at ho; have n0_ := Aside0.mk (Kd.R_after (ok := (fun _ => True)) (by (with_reducible repeat (first | apply Kd.R_alloc | apply Kd.R_drewN | apply Kd.R_drew)); exact Kd.R_mono HO_5.out (fun _ hk => ⟨trivial, hk⟩)) hg hat); have n1_ := Aside0.mk (Kd.R_over' (by (with_reducible repeat (first | apply Kd.R_alloc | apply Kd.R_drewN | apply Kd.R_drew)); exact HO_8.out) (Kd.R_typed (by (with_reducible repeat (first | apply Kd.R_alloc | apply Kd.R_drewN | apply Kd.R_drew)); exact HO_6.out)) (by decide) hg); have n2_ := Aside0.mk (hb); have n3_ := Aside0.mk (ho); clear HO_5; clear HO_8; clear HB; clear HO_6; have HO_5 := n0_; have HO_8 := n1_; have HB := n2_; have HO345 := n3_; clear n0_ n1_ n2_ n3_; clear ho hb hg hat; obtain ⟨Ao83, co83, eo83⟩ := Kd.R_slice HO345.out; subst eo83) | ((with_reducible refine gate_callee (f := 11) rfl ?_); refine gl_ (some 119) rfl rfl Tryd.func11 (by kernel_rfl) rfl #[.slice Ao83 y343.length co83] rfl ?_; (with_reducible refine (arg_Operands.calls k4 _ _ y343 t346 false _ ?side1 ?side2 A49.out ?tb20_).mono ?_); (case tb20_ => exact tb_ HTAB HB); (case side1 => repeat (first | exact (Kd.R_reads' HO345.out).2.2 | (with_reducible refine Kd.C_alloc ?_ _) | (with_reducible refine Kd.C_drewN ?_ _) | (with_reducible refine Kd.C_drew ?_))); (case side2 => exact (Kd.R_reads' HO345.out).2.1); rintro e w84 ⟨v348, rfl, ho0, hb⟩; refine ⟨_, rfl, ?_⟩; have n0_ := Aside0.mk (Kd.R_below (by (with_reducible repeat (first | apply Kd.R_alloc | apply Kd.R_drewN | apply Kd.R_drew)); exact HO_5.out) hb); have n1_ := Aside0.mk (Kd.R_elder' (by (with_reducible repeat (first | apply Kd.R_alloc | apply Kd.R_drewN | apply Kd.R_drew)); exact HO_8.out) (Kd.R_base ho0) hb); have n2_ := Aside0.mk (Kd.R_below (by (with_reducible repeat (first | apply Kd.R_alloc | apply Kd.R_drewN | apply Kd.R_drew)); exact HO345.out) hb); have n3_ := Aside0.mk (Kd.R_lower (Kd.R_new' ho0 (Kd.R_lt (by (with_reducible repeat (first | apply Kd.R_alloc | apply Kd.R_drewN | apply Kd.R_drew)); exact HO_8.out))) (below_size (bh_ HB))); have n4_ := bs_ HB hb; clear HO_5; clear HO_8; clear HO345; clear HB; have HO_5 := n0_; have HO_8 := n1_; have HO345 := n2_; have HO349 := n3_; have HB := n4_; clear n0_ n1_ n2_ n3_ n4_; (try clear hb); (try clear hb2); (try clear hk); (try clear hi); (try clear ho0); obtain ⟨Ao85, co85, eo85⟩ := Kd.R_slice HO349.out; subst eo85) | (go_at_call 3; (with_reducible refine (salvorlaw9_ArgRuns.calls k4  t353 _ A80.out ?tb22_).mono ?_); (case tb22_ => exact tb_ HTAB HB); rintro e w86 ⟨rfl, hb⟩; have n0_ := Aside0.mk (Kd.R_below (by (with_reducible repeat (first | apply Kd.R_alloc | apply Kd.R_drewN | apply Kd.R_drew)); exact HO_5.out) hb); have n1_ := Aside0.mk (Kd.R_below (by (with_reducible repeat (first | apply Kd.R_alloc | apply Kd.R_drewN | apply Kd.R_drew)); exact HO_8.out) hb); have n2_ := Aside0.mk (Kd.R_below (by (with_reducible repeat (first | apply Kd.R_alloc | apply Kd.R_drewN | apply Kd.R_drew)); exact HO345.out) hb); have n3_ := Aside0.mk (Kd.R_below (by (with_reducible repeat (first | apply Kd.R_alloc | apply Kd.R_drewN | apply Kd.R_drew)); exact HO349.out) hb); have n4_ := bs_ HB hb; clear HO_5; clear HO_8; clear HO345; clear HO349; clear HB; have HO_5 := n0_; have HO_8 := n1_; have HO345 := n2_; have HO349 := n3_; have HB := n4_; clear n0_ n1_ n2_ n3_ n4_; (try clear hb)))
                    go_ret
                    exact ⟨by first | rfl | (simp [errW_none, errW_some] <;> rfl) | (simp only [← hji45]; first | rfl | (simp [errW_none, errW_some] <;> rfl)) | (simp [*, errW_none, errW_some] <;> rfl), bh_ HB⟩
                   ·rw [if_neg c79] at H
                    have c79b0 : ((t346.length : Int) == 0) = false := beq_eq_false_iff_ne.mpr c79
                    have c79b1 : ((t346.length : Int) != 0) = true := bne_iff_ne.mpr c79
                    have c79b2 : ¬ (t346 = []) := fun h_ => c79 (by rw [h_]; rfl)
                    exact absurd ((Option.some.inj H).trans HT.out) (by simp)
                 ·rw [if_neg c69] at H
                  have c69b0 : (t347 == ((ji45) == 4)) = false := by simpa using c69
                  (try (have c69b1 : decide (t347 = ((ji45) == 4)) = false := by simpa using c69))
                  (try (have c69b2 : (t347 == ((ji45) == 4)) = false := by simpa using c69))
                  (try (have c69b3 : ¬ (t347 = ((ji45) == 4)) := by simpa using c69))
                  clear c69
                  exact absurd ((Option.some.inj H).trans HT.out) (by simp)
               ·rw [if_neg c48] at H
                exact absurd H (by simp)
              ·rw [if_neg c47] at H
               exact absurd H (by simp)
             ·rw [if_neg c46] at H
              exact absurd H (by simp)

end Go.Proofs.YtlginoicaeonhaaDoor.P
