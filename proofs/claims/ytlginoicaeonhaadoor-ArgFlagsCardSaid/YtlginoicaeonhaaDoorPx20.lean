/- Laid by a program of this session's own (wip/wprint.py, over the kit's print.py): functions of the given program as plain Lean functions, and that the program's calls come to their answers. -/
import Derived.Test.YtlginoicaeonhaaDoorPx0
import Derived.Test.YtlginoicaeonhaaDoorPx14
import Derived.Test.YtlginoicaeonhaaDoorPx18
import Derived.Test.YtlginoicaeonhaaDoorPx19
namespace Go.Proofs.YtlginoicaeonhaaDoor.P
open Go.RowKit Go.Proofs.YtlginoicaeonhaaDoorW.PrintWords Go.Proofs.YtlginoicaeonhaaDoorW.PrintLast Go.Proofs.YtlginoicaeonhaaDoorW.PrintMore
attribute [local go_sem] max2_int min2_int max_two min_two max_three min_three max_four min_four   -- for this text's walks alone
set_option linter.unusedVariables false
set_option linter.unusedSimpArgs false

/-! ### salvorref6_Flags: function 16 -/
mutual
def salvorref6_Flags.j0 : Nat → ByteArray → List ByteArray → Bool → Option ((List (S31)) × List ByteArray × Bool)
 | 0, _, _, _ => none
 | k + 1, x0, x1, x22 => if x22 = true then (some (([] : List (S31)), ([] : List ByteArray), false)) else (salvorref6_Flags.l0 k x0 x1 0 ([] : List (S31)) ([] : List ByteArray))
def salvorref6_Flags.l0 : Nat → ByteArray → List ByteArray → Int → List (S31) → List ByteArray → Option ((List (S31)) × List ByteArray × Bool)
 | 0, _, _, _, _, _ => none
 | k + 1, x0, x1, x7, x196000, x196001 => if x7 < (x1.length : Int) then (if 0 ≤ x7 then (if (rdOf ByteArray.empty x1 x7).toList = ([45, 45] : List UInt8) then (if 0 ≤ (wrap64 (x7 + 1)) then (if (wrap64 (x7 + 1)) ≤ (x1.length : Int) then (if x196001.length + (x1.drop ((wrap64 (x7 + 1)) : Int).toNat).length < 8796093022208 then (some (x196000, (x196001 ++ (x1.drop ((wrap64 (x7 + 1)) : Int).toNat)), true)) else (none)) else (none)) else (none)) else (if ((rdOf ByteArray.empty x1 x7).size : Int) > 2 then (if 0 ≤ 2 then (if 2 ≤ ((rdOf ByteArray.empty x1 x7).size : Int) then (salvorref6_Flags.j2 k x0 x1 x7 (rdOf ByteArray.empty x1 x7) (((rdOf ByteArray.empty x1 x7).extract 0 2).toList == ([45, 45] : List UInt8)) x196000 x196001) else (none)) else (none)) else (salvorref6_Flags.j2 k x0 x1 x7 (rdOf ByteArray.empty x1 x7) false x196000 x196001))) else (none)) else (some (x196000, x196001, true))
def salvorref6_Flags.j2 : Nat → ByteArray → List ByteArray → Int → ByteArray → Bool → List (S31) → List ByteArray → Option ((List (S31)) × List ByteArray × Bool)
 | 0, _, _, _, _, _, _, _ => none
 | k + 1, x0, x1, x7, x8, x52, x196000, x196001 => if x52 = true then (if 2 ≤ (x8.size : Int) then ((salvorref6_cutAt.f k (x8.extract 2 x8.size) 61).bind fun bt202 => ((salvorref6_letters.f k bt202.1).bind fun t205 => (if t205 = true then (if x196000.length < 4398046511104 then (salvorref6_Flags.l0 k x0 x1 (wrap64 (x7 + 1)) (x196000 ++ [(⟨bt202.1, bt202.2.1⟩ : S31)]) x196001) else (none)) else (some (([] : List (S31)), ([] : List ByteArray), false))))) else (none)) else (if (x8.size : Int) > 1 then (if 0 < (x8.size : Int) then (salvorref6_Flags.j3 k x0 x1 x7 x8 ((bt x8 0) == 45) x196000 x196001) else (none)) else (salvorref6_Flags.j3 k x0 x1 x7 x8 false x196000 x196001))
def salvorref6_Flags.j3 : Nat → ByteArray → List ByteArray → Int → ByteArray → Bool → List (S31) → List ByteArray → Option ((List (S31)) × List ByteArray × Bool)
 | 0, _, _, _, _, _, _, _ => none
 | k + 1, x0, x1, x7, x8, x80, x196000, x196001 => if x80 = true then (salvorref6_Flags.l1 k x0 x1 x7 x8 1 x196000 x196001) else (if x196001.length < 8796093022208 then (salvorref6_Flags.l0 k x0 x1 (wrap64 (x7 + 1)) x196000 (x196001 ++ [x8])) else (none))
def salvorref6_Flags.l1 : Nat → ByteArray → List ByteArray → Int → ByteArray → Int → List (S31) → List ByteArray → Option ((List (S31)) × List ByteArray × Bool)
 | 0, _, _, _, _, _, _, _ => none
 | k + 1, x0, x1, x7, x8, x12, x196000, x196001 => if x12 < (x8.size : Int) then (if 0 ≤ x12 then (if x12 ≤ (wrap64 (x12 + 1)) then (if (wrap64 (x12 + 1)) ≤ (x8.size : Int) then ((salvorref6_kind.f k x0 (bt x8 x12)).bind fun t210 => (if t210 = 0 then (some (([] : List (S31)), ([] : List ByteArray), false)) else (if t210 = 2 then (salvorref6_Flags.j5 k x0 x1 x7 x8 x12 t210 (decide ((wrap64 (x12 + 1)) < (x8.size : Int))) x196000 x196001 (x8.extract (x12 : Int).toNat ((wrap64 (x12 + 1)) : Int).toNat) (⟨#[]⟩ : ByteArray)) else (salvorref6_Flags.j5 k x0 x1 x7 x8 x12 t210 false x196000 x196001 (x8.extract (x12 : Int).toNat ((wrap64 (x12 + 1)) : Int).toNat) (⟨#[]⟩ : ByteArray))))) else (none)) else (none)) else (none)) else (salvorref6_Flags.l0 k x0 x1 (wrap64 (x7 + 1)) x196000 x196001)
def salvorref6_Flags.j5 : Nat → ByteArray → List ByteArray → Int → ByteArray → Int → Int → Bool → List (S31) → List ByteArray → ByteArray → ByteArray → Option ((List (S31)) × List ByteArray × Bool)
 | 0, _, _, _, _, _, _, _, _, _, _, _ => none
 | k + 1, x0, x1, x7, x8, x12, x14, x117, x196000, x196001, x210000, x210001 => if x117 = true then (if 0 ≤ (wrap64 (x12 + 1)) then (if (wrap64 (x12 + 1)) ≤ (x8.size : Int) then (if x196000.length < 4398046511104 then (salvorref6_Flags.l1 k x0 x1 x7 x8 (wrap64 ((x8.size : Int) + 1)) (x196000 ++ [(⟨x210000, x8.extract ((wrap64 (x12 + 1)) : Int).toNat x8.size⟩ : S31)]) x196001) else (none)) else (none)) else (none)) else (if x14 = 2 then (if (wrap64 (x7 + 1)) ≥ (x1.length : Int) then (some (([] : List (S31)), ([] : List ByteArray), false)) else (if 0 ≤ (wrap64 (x7 + 1)) then (if (wrap64 (x7 + 1)) < (x1.length : Int) then (if x196000.length < 4398046511104 then (salvorref6_Flags.l1 k x0 x1 (wrap64 (x7 + 1)) x8 (wrap64 (x12 + 1)) (x196000 ++ [(⟨x210000, rdOf ByteArray.empty x1 (wrap64 (x7 + 1))⟩ : S31)]) x196001) else (none)) else (none)) else (none))) else (if x196000.length < 4398046511104 then (salvorref6_Flags.l1 k x0 x1 x7 x8 (wrap64 (x12 + 1)) (x196000 ++ [(⟨x210000, x210001⟩ : S31)]) x196001) else (none)))
end
def salvorref6_Flags.f (k : Nat) (a0 : ByteArray) (l1 : List ByteArray) : Option ((List (S31)) × List ByteArray × Bool) := if (l1.length : Int) > 40 then (salvorref6_Flags.j0 k a0 l1 true) else ((salvorref6_mayspec.f k a0).bind fun t196 => (salvorref6_Flags.j0 k a0 l1 (!t196)))
theorem salvorref6_Flags.mono_l : ∀ k, (∀ y0 y1 y2, LeO (salvorref6_Flags.j0 k y0 y1 y2) (salvorref6_Flags.j0 (k + 1) y0 y1 y2)) ∧ (∀ y0 y1 y2 y3 y4, LeO (salvorref6_Flags.l0 k y0 y1 y2 y3 y4) (salvorref6_Flags.l0 (k + 1) y0 y1 y2 y3 y4)) ∧ (∀ y0 y1 y2 y3 y4 y5 y6, LeO (salvorref6_Flags.j2 k y0 y1 y2 y3 y4 y5 y6) (salvorref6_Flags.j2 (k + 1) y0 y1 y2 y3 y4 y5 y6)) ∧ (∀ y0 y1 y2 y3 y4 y5 y6, LeO (salvorref6_Flags.j3 k y0 y1 y2 y3 y4 y5 y6) (salvorref6_Flags.j3 (k + 1) y0 y1 y2 y3 y4 y5 y6)) ∧ (∀ y0 y1 y2 y3 y4 y5 y6, LeO (salvorref6_Flags.l1 k y0 y1 y2 y3 y4 y5 y6) (salvorref6_Flags.l1 (k + 1) y0 y1 y2 y3 y4 y5 y6)) ∧ (∀ y0 y1 y2 y3 y4 y5 y6 y7 y8 y9 y10, LeO (salvorref6_Flags.j5 k y0 y1 y2 y3 y4 y5 y6 y7 y8 y9 y10) (salvorref6_Flags.j5 (k + 1) y0 y1 y2 y3 y4 y5 y6 y7 y8 y9 y10))
 | 0 => ⟨fun _ _ _ r h => by simp [salvorref6_Flags.j0] at h, fun _ _ _ _ _ r h => by simp [salvorref6_Flags.l0] at h, fun _ _ _ _ _ _ _ r h => by simp [salvorref6_Flags.j2] at h, fun _ _ _ _ _ _ _ r h => by simp [salvorref6_Flags.j3] at h, fun _ _ _ _ _ _ _ r h => by simp [salvorref6_Flags.l1] at h, fun _ _ _ _ _ _ _ _ _ _ _ r h => by simp [salvorref6_Flags.j5] at h⟩
 | k + 1 => by
  obtain ⟨ih0, ih1, ih2, ih3, ih4, ih5⟩ := salvorref6_Flags.mono_l k
  refine ⟨?_, ?_, ?_, ?_, ?_, ?_⟩
  ·intro y0 y1 y2
   unfold salvorref6_Flags.j0
   repeat' first
   | (with_reducible exact ih0 _ _ _)
   | (with_reducible exact ih1 _ _ _ _ _)
   | (with_reducible exact ih2 _ _ _ _ _ _ _)
   | (with_reducible exact ih3 _ _ _ _ _ _ _)
   | (with_reducible exact ih4 _ _ _ _ _ _ _)
   | (with_reducible exact ih5 _ _ _ _ _ _ _ _ _ _ _)
   | (with_reducible exact salvorref6_cutAt.mono _ _ _)
   | (with_reducible exact salvorref6_kind.mono _ _ _)
   | (with_reducible exact salvorref6_letters.mono _ _)
   | (with_reducible exact salvorref6_mayspec.mono _ _)
   | (with_reducible exact LeO.refl _)
   | (with_reducible exact LeO.none _)
   | (with_reducible refine LeO.ite ?_ ?_)
   | (with_reducible refine LeO.bind ?_ (fun _ => ?_))
   | exact ih0 _ _ _
   | exact ih1 _ _ _ _ _
   | exact ih2 _ _ _ _ _ _ _
   | exact ih3 _ _ _ _ _ _ _
   | exact ih4 _ _ _ _ _ _ _
   | exact ih5 _ _ _ _ _ _ _ _ _ _ _
   | exact salvorref6_cutAt.mono _ _ _
   | exact salvorref6_kind.mono _ _ _
   | exact salvorref6_letters.mono _ _
   | exact salvorref6_mayspec.mono _ _
   | exact LeO.none _
   | refine LeO.ite ?_ ?_
   | refine LeO.bind ?_ (fun _ => ?_)
  ·intro y0 y1 y2 y3 y4
   unfold salvorref6_Flags.l0
   repeat' first
   | (with_reducible exact ih0 _ _ _)
   | (with_reducible exact ih1 _ _ _ _ _)
   | (with_reducible exact ih2 _ _ _ _ _ _ _)
   | (with_reducible exact ih3 _ _ _ _ _ _ _)
   | (with_reducible exact ih4 _ _ _ _ _ _ _)
   | (with_reducible exact ih5 _ _ _ _ _ _ _ _ _ _ _)
   | (with_reducible exact salvorref6_cutAt.mono _ _ _)
   | (with_reducible exact salvorref6_kind.mono _ _ _)
   | (with_reducible exact salvorref6_letters.mono _ _)
   | (with_reducible exact salvorref6_mayspec.mono _ _)
   | (with_reducible exact LeO.refl _)
   | (with_reducible exact LeO.none _)
   | (with_reducible refine LeO.ite ?_ ?_)
   | (with_reducible refine LeO.bind ?_ (fun _ => ?_))
   | exact ih0 _ _ _
   | exact ih1 _ _ _ _ _
   | exact ih2 _ _ _ _ _ _ _
   | exact ih3 _ _ _ _ _ _ _
   | exact ih4 _ _ _ _ _ _ _
   | exact ih5 _ _ _ _ _ _ _ _ _ _ _
   | exact salvorref6_cutAt.mono _ _ _
   | exact salvorref6_kind.mono _ _ _
   | exact salvorref6_letters.mono _ _
   | exact salvorref6_mayspec.mono _ _
   | exact LeO.none _
   | refine LeO.ite ?_ ?_
   | refine LeO.bind ?_ (fun _ => ?_)
  ·intro y0 y1 y2 y3 y4 y5 y6
   unfold salvorref6_Flags.j2
   repeat' first
   | (with_reducible exact ih0 _ _ _)
   | (with_reducible exact ih1 _ _ _ _ _)
   | (with_reducible exact ih2 _ _ _ _ _ _ _)
   | (with_reducible exact ih3 _ _ _ _ _ _ _)
   | (with_reducible exact ih4 _ _ _ _ _ _ _)
   | (with_reducible exact ih5 _ _ _ _ _ _ _ _ _ _ _)
   | (with_reducible exact salvorref6_cutAt.mono _ _ _)
   | (with_reducible exact salvorref6_kind.mono _ _ _)
   | (with_reducible exact salvorref6_letters.mono _ _)
   | (with_reducible exact salvorref6_mayspec.mono _ _)
   | (with_reducible exact LeO.refl _)
   | (with_reducible exact LeO.none _)
   | (with_reducible refine LeO.ite ?_ ?_)
   | (with_reducible refine LeO.bind ?_ (fun _ => ?_))
   | exact ih0 _ _ _
   | exact ih1 _ _ _ _ _
   | exact ih2 _ _ _ _ _ _ _
   | exact ih3 _ _ _ _ _ _ _
   | exact ih4 _ _ _ _ _ _ _
   | exact ih5 _ _ _ _ _ _ _ _ _ _ _
   | exact salvorref6_cutAt.mono _ _ _
   | exact salvorref6_kind.mono _ _ _
   | exact salvorref6_letters.mono _ _
   | exact salvorref6_mayspec.mono _ _
   | exact LeO.none _
   | refine LeO.ite ?_ ?_
   | refine LeO.bind ?_ (fun _ => ?_)
  ·intro y0 y1 y2 y3 y4 y5 y6
   unfold salvorref6_Flags.j3
   repeat' first
   | (with_reducible exact ih0 _ _ _)
   | (with_reducible exact ih1 _ _ _ _ _)
   | (with_reducible exact ih2 _ _ _ _ _ _ _)
   | (with_reducible exact ih3 _ _ _ _ _ _ _)
   | (with_reducible exact ih4 _ _ _ _ _ _ _)
   | (with_reducible exact ih5 _ _ _ _ _ _ _ _ _ _ _)
   | (with_reducible exact salvorref6_cutAt.mono _ _ _)
   | (with_reducible exact salvorref6_kind.mono _ _ _)
   | (with_reducible exact salvorref6_letters.mono _ _)
   | (with_reducible exact salvorref6_mayspec.mono _ _)
   | (with_reducible exact LeO.refl _)
   | (with_reducible exact LeO.none _)
   | (with_reducible refine LeO.ite ?_ ?_)
   | (with_reducible refine LeO.bind ?_ (fun _ => ?_))
   | exact ih0 _ _ _
   | exact ih1 _ _ _ _ _
   | exact ih2 _ _ _ _ _ _ _
   | exact ih3 _ _ _ _ _ _ _
   | exact ih4 _ _ _ _ _ _ _
   | exact ih5 _ _ _ _ _ _ _ _ _ _ _
   | exact salvorref6_cutAt.mono _ _ _
   | exact salvorref6_kind.mono _ _ _
   | exact salvorref6_letters.mono _ _
   | exact salvorref6_mayspec.mono _ _
   | exact LeO.none _
   | refine LeO.ite ?_ ?_
   | refine LeO.bind ?_ (fun _ => ?_)
  ·intro y0 y1 y2 y3 y4 y5 y6
   unfold salvorref6_Flags.l1
   repeat' first
   | (with_reducible exact ih0 _ _ _)
   | (with_reducible exact ih1 _ _ _ _ _)
   | (with_reducible exact ih2 _ _ _ _ _ _ _)
   | (with_reducible exact ih3 _ _ _ _ _ _ _)
   | (with_reducible exact ih4 _ _ _ _ _ _ _)
   | (with_reducible exact ih5 _ _ _ _ _ _ _ _ _ _ _)
   | (with_reducible exact salvorref6_cutAt.mono _ _ _)
   | (with_reducible exact salvorref6_kind.mono _ _ _)
   | (with_reducible exact salvorref6_letters.mono _ _)
   | (with_reducible exact salvorref6_mayspec.mono _ _)
   | (with_reducible exact LeO.refl _)
   | (with_reducible exact LeO.none _)
   | (with_reducible refine LeO.ite ?_ ?_)
   | (with_reducible refine LeO.bind ?_ (fun _ => ?_))
   | exact ih0 _ _ _
   | exact ih1 _ _ _ _ _
   | exact ih2 _ _ _ _ _ _ _
   | exact ih3 _ _ _ _ _ _ _
   | exact ih4 _ _ _ _ _ _ _
   | exact ih5 _ _ _ _ _ _ _ _ _ _ _
   | exact salvorref6_cutAt.mono _ _ _
   | exact salvorref6_kind.mono _ _ _
   | exact salvorref6_letters.mono _ _
   | exact salvorref6_mayspec.mono _ _
   | exact LeO.none _
   | refine LeO.ite ?_ ?_
   | refine LeO.bind ?_ (fun _ => ?_)
  ·intro y0 y1 y2 y3 y4 y5 y6 y7 y8 y9 y10
   unfold salvorref6_Flags.j5
   repeat' first
   | (with_reducible exact ih0 _ _ _)
   | (with_reducible exact ih1 _ _ _ _ _)
   | (with_reducible exact ih2 _ _ _ _ _ _ _)
   | (with_reducible exact ih3 _ _ _ _ _ _ _)
   | (with_reducible exact ih4 _ _ _ _ _ _ _)
   | (with_reducible exact ih5 _ _ _ _ _ _ _ _ _ _ _)
   | (with_reducible exact salvorref6_cutAt.mono _ _ _)
   | (with_reducible exact salvorref6_kind.mono _ _ _)
   | (with_reducible exact salvorref6_letters.mono _ _)
   | (with_reducible exact salvorref6_mayspec.mono _ _)
   | (with_reducible exact LeO.refl _)
   | (with_reducible exact LeO.none _)
   | (with_reducible refine LeO.ite ?_ ?_)
   | (with_reducible refine LeO.bind ?_ (fun _ => ?_))
   | exact ih0 _ _ _
   | exact ih1 _ _ _ _ _
   | exact ih2 _ _ _ _ _ _ _
   | exact ih3 _ _ _ _ _ _ _
   | exact ih4 _ _ _ _ _ _ _
   | exact ih5 _ _ _ _ _ _ _ _ _ _ _
   | exact salvorref6_cutAt.mono _ _ _
   | exact salvorref6_kind.mono _ _ _
   | exact salvorref6_letters.mono _ _
   | exact salvorref6_mayspec.mono _ _
   | exact LeO.none _
   | refine LeO.ite ?_ ?_
   | refine LeO.bind ?_ (fun _ => ?_)
theorem salvorref6_Flags.mono : ∀ a0 a1 k, LeO (salvorref6_Flags.f k a0 a1) (salvorref6_Flags.f (k + 1) a0 a1) := by
 intro a0 a1 k
 obtain ⟨ih0, ih1, ih2, ih3, ih4, ih5⟩ := salvorref6_Flags.mono_l k
 unfold salvorref6_Flags.f
 repeat' first
   | (with_reducible exact ih0 _ _ _)
   | (with_reducible exact ih1 _ _ _ _ _)
   | (with_reducible exact ih2 _ _ _ _ _ _ _)
   | (with_reducible exact ih3 _ _ _ _ _ _ _)
   | (with_reducible exact ih4 _ _ _ _ _ _ _)
   | (with_reducible exact ih5 _ _ _ _ _ _ _ _ _ _ _)
   | (with_reducible exact salvorref6_cutAt.mono _ _ _)
   | (with_reducible exact salvorref6_kind.mono _ _ _)
   | (with_reducible exact salvorref6_letters.mono _ _)
   | (with_reducible exact salvorref6_mayspec.mono _ _)
   | (with_reducible exact LeO.refl _)
   | (with_reducible exact LeO.none _)
   | (with_reducible refine LeO.ite ?_ ?_)
   | (with_reducible refine LeO.bind ?_ (fun _ => ?_))
   | exact ih0 _ _ _
   | exact ih1 _ _ _ _ _
   | exact ih2 _ _ _ _ _ _ _
   | exact ih3 _ _ _ _ _ _ _
   | exact ih4 _ _ _ _ _ _ _
   | exact ih5 _ _ _ _ _ _ _ _ _ _ _
   | exact salvorref6_cutAt.mono _ _ _
   | exact salvorref6_kind.mono _ _ _
   | exact salvorref6_letters.mono _ _
   | exact salvorref6_mayspec.mono _ _
   | exact LeO.none _
   | refine LeO.ite ?_ ?_
   | refine LeO.bind ?_ (fun _ => ?_)
def salvorref6_Flags.T10 : Bool × List (List Nat × List Nat) := (true, [([], []), ([0], [0]), ([], []), ([], []), ([3], [3]), ([2, 4], [2, 4]), ([1, 5], [1, 5]), ([0, 1, 2, 3, 4, 5, 6], []), ([7, 6, 6, 0, 1, 2, 3, 4, 5, 6], [6, 7])])
def salvorref6_Flags.B10 : List Nat := [0, 1, 0, 0, 8, 28, 63, 127, 255]
theorem salvorref6_Flags.tab10 : rtab .any (opsOf Tryd.f16 10) = salvorref6_Flags.T10 := by kernel_rfl
theorem salvorref6_Flags.bits10 : waitsOk salvorref6_Flags.T10.2 salvorref6_Flags.B10 = true := by kernel_rfl
set_option maxHeartbeats 8000000 in
set_option maxRecDepth 100000 in
theorem salvorref6_Flags.calls (k : Nat) (a0 : ByteArray) (A1 : Option Addr) (c1 : Nat) (l1 : List ByteArray) (r1 : List (S31)) (r2 : List ByteArray) (r3 : Bool) (w : World) (hr1 : Kd.C Kd.string w A1 l1.length l1) (hc1 : l1.length ≤ c1) (h : salvorref6_Flags.f k a0 l1 = some (r1, r2, r3)) :
  Calls Tryd.prog 16 #[.string a0, .slice A1 l1.length c1] w fun e w' => ∃ v0_ v1_ : Value, e = .returned (.tuple #[.agg #[v0_, v1_], .bool r3]) ∧ Kd.R k31 31 w' w.heap.size (fun _ => True) v0_ r1 ∧ Kd.R Kd.string 9 w' w.heap.size (fun _ => True) v1_ r2 ∧ Below w.heap.size w w' := by
 have hu25 := Tryd.underlying25
 have hu31 := Tryd.underlying31
 have HR1 := Aside0.mk hr1
 have HC1 := Aside0.mk hc1
 clear hr1 hc1
 have HB := Aside0.mk (Below.refl w.heap.size w)
 have H : (if (l1.length : Int) > 40 then (salvorref6_Flags.j0 k a0 l1 true) else ((salvorref6_mayspec.f k a0).bind fun t196 => (salvorref6_Flags.j0 k a0 l1 (!t196)))) = some (r1, r2, r3) := h
 clear h
 have HC3 := Aside0.mk H
 clear H
 go_enter Tryd.func16, Tryd.ntmps16
 go_upto_region 2 with (first | ((with_reducible refine gate_dst (N := 4) rfl ?_); (try (refine gate_guard (by rfl) ?_; dsimp only)); refine box_e 4 #[.slice none 0 0, .slice none 0 0] 25 ?_; intro gb194 hg w4 hbox hb; have BK194 := Aside0.mk hbox; have GW194 := bg_ HB hg; have GE194 := bg_ HB hg; replace HB := bs_ HB hb; clear hb hbox hg) | ((with_reducible refine gate_dst (N := 6) rfl ?_); (try (refine gate_guard (by rfl) ?_; dsimp only)); refine box_e 6 #[.slice none 0 0, .slice none 0 0] 25 ?_; intro gb195 hg w5 hbox hb; have BK195 := Aside0.mk hbox; have GW195 := bg_ HB hg; have GE195 := bg_ HB hg; have NB194_195 := bn_ BK194 hg; have NB195_194 := bm_ BK194 hg; replace BK194 := bb_ BK194 hb; replace HB := bs_ HB hb; clear hb hbox hg))
 (try simp only [Act.put, List.setIfInBounds_toArray, List.set_cons_zero, List.set_cons_succ])
 go_cut [22] (fun v22 wc => ∃ (kq : Nat) (x22_2 : Bool), v22 = .bool x22_2 ∧ Aside0 (salvorref6_Flags.j0 kq a0 l1 x22_2 = some (r1, r2, r3)) ∧ Aside0 (kq ≤ k) ∧ Aside0 (wc.heap[gb194]? = some (.cells #[(.slice none 0 0), (.slice none 0 0)] 25 (0, 0))) ∧ Aside0 (wc.heap[gb195]? = some (.cells #[(.slice none 0 0), (.slice none 0 0)] 25 (0, 0))) ∧ Aside0 (Below w.heap.size w wc))
 case first =>
  have H := HC3.out
  clear HC3
  by_cases c6 : (l1.length : Int) > 40
  ·rw [if_pos c6] at H
   have c6b0 : decide (40 < (l1.length : Int)) = true := decide_eq_true c6
   have c6b1 : decide (40 < l1.length) = true := decide_eq_true (by omega)
   clear c6
   (first | rw [c6b0] | (simp only [i64_w, i32_w]; rw [c6b0]) | skip)
   have H' := Aside0.mk H
   clear H
   go_wp2
   go_meet
   case rel => exact ⟨_, (true), (by first | rfl | (simp; done) | (simp [*]; done)), H', ⟨by first | omega | exact Nat.le_refl _⟩, ⟨bq_ BK194⟩, ⟨bq_ BK195⟩, ⟨bh_ HB⟩⟩
  ·rw [if_neg c6] at H
   have c6b0 : decide (40 < (l1.length : Int)) = false := decide_eq_false c6
   have c6b1 : decide (40 < l1.length) = false := decide_eq_false (by omega)
   clear c6
   (first | rw [c6b0] | (simp only [i64_w, i32_w]; rw [c6b0]) | skip)
   replace H := Option.bind_eq_some_iff.mp H
   obtain ⟨t196, A70, H⟩ := H
   replace H : (salvorref6_Flags.j0 k a0 l1 (!t196)) = some (r1, r2, r3) := H
   have A7 := Aside0.mk A70
   clear A70
   have H' := Aside0.mk H
   clear H
   go_wp2_with (first | (go_at_call 31; (with_reducible refine (salvorref6_mayspec.calls k a0 t196 _ A7.out).mono ?_); rintro e w' ⟨rfl, ⟨nd, rfl⟩⟩))
   go_meet
   case rel => exact ⟨_, (!t196), (by first | rfl | (simp; done) | (simp [*]; done)), H', ⟨by first | omega | exact Nat.le_refl _⟩, ⟨bq_ BK194⟩, ⟨bq_ BK195⟩, ⟨bh_ HB⟩⟩
 case rest =>
  clear HC3
  try clear c1
  try clear p2
  try clear c6
  try clear c6b0
  try clear c6b1
  obtain ⟨kq, x22_2, rfl, HA, HJ2, BK194, BK195, HB⟩ := hcut
  cases kq with
  | zero => exact absurd HA.out (by simp [salvorref6_Flags.j0])
  | succ kj2 =>
   have H := HA.out
   clear HA
   simp only [salvorref6_Flags.j0] at H
   by_cases c8 : x22_2 = true
   ·subst c8
    have H1 : (some (([] : List (S31)), ([] : List ByteArray), false)) = some (r1, r2, r3) := by rw [if_pos rfl] at H; exact H
    clear H
    have H := H1
    clear H1
    simp only [Option.some.injEq, Prod.mk.injEq] at H
    obtain ⟨rfl, rfl, rfl⟩ := H
    have hnb9 := NB194_195.out
    have hnc9 := NB195_194.out
    obtain ⟨hcz10_0, hcz10_1, hfz10_0, hfz10_1⟩ := c2_ BK194
    go_wp2
    refine bodyPost_ret (results_ct rfl _ _ gb194 25 #[.slice none 0 0, .slice none 0 0] (0, 0) _ rfl (bp_ BK194) Tryd.underlying25 rfl (by kernel_rfl)) rfl ?_
    exact ⟨_, _, by first | rfl | (simp [errW_none, errW_some] <;> rfl) | (simp [*, errW_none, errW_some] <;> rfl), by first | exact Kd.R_nil _ _ _ _ _ | exact Kd.N_nil _ _ _ _ _ | exact Kd.V_nil _ _ _ _ _ | exact Kd.Q_nil _ _ _ _ _ | exact Kd.S_nil _ _ _ _ _, by first | exact Kd.R_nil _ _ _ _ _ | exact Kd.N_nil _ _ _ _ _ | exact Kd.V_nil _ _ _ _ _ | exact Kd.Q_nil _ _ _ _ _ | exact Kd.S_nil _ _ _ _ _, bh_ HB⟩
   ·replace c8 := Bool.eq_false_iff.mpr c8
    subst c8
    have H1 : (salvorref6_Flags.l0 kj2 a0 l1 0 ([] : List (S31)) ([] : List ByteArray)) = some (r1, r2, r3) := by rw [if_neg (show ¬ (false = true) by decide)] at H; exact H
    clear H
    have H := H1
    clear H1
    have H' := Aside0.mk H
    clear H
    go_wp2
    go_loopg [7] kj2 (fun kq v7 w' => ∃ (x7_2 : Int) (x196000_2 : List (S31)) (x196001_2 : List ByteArray) (u196000 : Value) (u196001 : Value), v7 = .int .i64 x7_2 ∧ Aside0 (salvorref6_Flags.l0 kq a0 l1 x7_2 x196000_2 x196001_2 = some (r1, r2, r3)) ∧ Aside0 (kq ≤ kj2) ∧ Aside0 (Kd.R k31 31 w' w.heap.size (fun _ => True) u196000 x196000_2) ∧ Aside0 (Kd.R Kd.string 9 w' w.heap.size (fun _ => True) u196001 x196001_2) ∧ Aside0 (w'.heap[gb194]? = some (.cells #[(.slice none 0 0), (.slice none 0 0)] 25 (0, 0))) ∧ Aside0 (w'.heap[gb195]? = some (.cells #[u196000, u196001] 25 (0, 0))) ∧ Aside0 (Below w.heap.size w w'))
    case atStart => exact ⟨(0), (([] : List (S31))), (([] : List ByteArray)), (.slice none 0 0), (.slice none 0 0), (by first | rfl | (simp; done) | (simp [*]; done)), H', ⟨Nat.le_refl _⟩, ⟨by first | exact Kd.R_nil _ _ _ _ _ | exact Kd.N_nil _ _ _ _ _ | exact Kd.V_nil _ _ _ _ _ | exact Kd.Q_nil _ _ _ _ _ | exact Kd.S_nil _ _ _ _ _⟩, ⟨by first | exact Kd.R_nil _ _ _ _ _ | exact Kd.N_nil _ _ _ _ _ | exact Kd.V_nil _ _ _ _ _ | exact Kd.Q_nil _ _ _ _ _ | exact Kd.S_nil _ _ _ _ _⟩, ⟨bq_ BK194⟩, ⟨bq_ BK195⟩, ⟨bh_ HB⟩⟩
    case round =>
     clear H'
     try clear c1
     try clear p2
     try clear c6
     try clear c6b0
     try clear c6b1
     try clear c8
     try clear c9
     try clear hcz10_0 hcz10_1 hfz10_0 hfz10_1
     try clear p2
     obtain ⟨x7_2, x196000_2, x196001_2, u196000, u196001, rfl, HA, HK2, HO_196000, HO_196001, BK194, BK195, HB⟩ := hrel
     cases gk with
     | zero => exact absurd HA.out (by simp [salvorref6_Flags.l0])
     | succ k2 =>
      have H := HA.out
      clear HA
      simp only [salvorref6_Flags.l0] at H
      by_cases c11 : x7_2 < (l1.length : Int)
      ·rw [if_pos c11] at H
       have c11b0 : decide (x7_2 < (l1.length : Int)) = true := decide_eq_true c11
       clear c11
       by_cases c12 : 0 ≤ x7_2
       ·rw [if_pos c12] at H
        have c12b0 : decide (0 ≤ x7_2) = true := decide_eq_true c12
        clear c12
        by_cases c13 : (rdOf ByteArray.empty l1 x7_2).toList = ([45, 45] : List UInt8)
        ·rw [if_pos c13] at H
         have c13b0 : ((rdOf ByteArray.empty l1 x7_2).toList == ([45, 45] : List UInt8)) = true := beq_iff_eq.mpr c13
         have c13b1 : ((rdOf ByteArray.empty l1 x7_2).toList != ([45, 45] : List UInt8)) = false := bne_eq_false_iff_eq.mpr c13
         clear c13
         obtain ⟨ji14, hji14⟩ : ∃ j_ : Int, (wrap64 (x7_2 + 1)) = j_ := ⟨_, rfl⟩
         (try rw [hji14] at BK209)
         replace H : (if 0 ≤ (ji14) then (if (ji14) ≤ (l1.length : Int) then (if x196001_2.length + (l1.drop ((ji14) : Int).toNat).length < 8796093022208 then (some (x196000_2, (x196001_2 ++ (l1.drop ((ji14) : Int).toNat)), true)) else (none)) else (none)) else (none)) = some (r1, r2, r3) := by first | (rw [hji14] at H; exact H) | (simp only [hji14] at H ⊢; exact H)
         have hji14w : (IntKind.i64.wrap (x7_2 + 1)) = ji14 := (i64_w _).trans hji14
         by_cases c15 : 0 ≤ (ji14)
         ·rw [if_pos c15] at H
          have c15b0 := eq_true c15
          have c15b1 : decide (0 ≤ (ji14)) = true := decide_eq_true c15
          clear c15
          by_cases c16 : (ji14) ≤ (l1.length : Int)
          ·rw [if_pos c16] at H
           have c16b0 := eq_true c16
           have c16b1 : decide ((ji14) ≤ (l1.length : Int)) = true := decide_eq_true c16
           clear c16
           by_cases c17 : x196001_2.length + (l1.drop ((ji14) : Int).toNat).length < 8796093022208
           ·rw [if_pos c17] at H
            have LMc17 := Aside0.mk c17
            clear c17
            obtain ⟨y199, hy199⟩ : ∃ y_ : List ByteArray, y_ = (x196001_2 ++ (l1.drop ((ji14) : Int).toNat)) := ⟨_, rfl⟩
            replace H : (some (x196000_2, y199, true)) = some (r1, r2, r3) := by first | (rw [hy199]; with_reducible exact H) | (have H2_ := (Option.bind_some _ _).symm.trans H; rw [hy199]; with_reducible exact H2_) | (have H2_ := (Option.bind_some _ _).symm.trans H; with_reducible exact H2_) | with_reducible exact H | (rw [hy199]; exact H) | exact H
            have Ny199 := Aside0.mk hy199
            clear hy199
            simp only [Option.some.injEq, Prod.mk.injEq] at H
            obtain ⟨rfl, rfl, rfl⟩ := H
            have p197 : 0 ≤ (x7_2 : Int) := of_decide_eq_true (by first | (with_reducible assumption) | assumption)
            have q197 : x7_2 < (l1.length : Int) := of_decide_eq_true (by first | (with_reducible assumption) | assumption)
            obtain ⟨ad197, e197, hx197_0⟩ := Kd.at_string HR1.out x7_2 p197 q197
            cases e197
            replace hx197_0 := (HB.out.cell (World.block_lt_of_cell? w _ hx197_0)).trans hx197_0
            replace p197 := eq_true p197
            replace q197 := eq_true q197
            try go_wp2
            replace HO_196000 := Aside0.mk (Kd.R_drew HO_196000.out)
            replace HO_196001 := Aside0.mk (Kd.R_drew HO_196001.out)
            replace BK194 := Aside0.mk (blk_drew BK194.out)
            replace BK195 := Aside0.mk (blk_drew BK195.out)
            replace HB := Aside0.mk (below_drew1 HB.out)
            obtain ⟨i019, hi019, _, hsz19, _⟩ := info_parts info9
            obtain ⟨A19, hcut19, hA19, hC19⟩ := print_drop_of (P := Tryd.prog) Value.string (⟨#[]⟩ : ByteArray) 23 9 .i64 Tryd.underlying23 hi019 hsz19 (some ad197) c1 l1 (ji14) (of_decide_eq_true (by first | (with_reducible assumption) | assumption)) (of_decide_eq_true (by first | (with_reducible assumption) | assumption)) HC1.out
            have HR198 := Aside0.mk (Kd.C_of_reads (h1 := fun _ => rfl) (hA19 _ (Kd.reads_of_C HR1.out)))
            have HC198 := Aside0.mk hC19
            clear hA19 hC19 hi019 hsz19
            refine start_ (n := 9) (S := fun w' => w'.cell? ⟨gb195, 0, none⟩ = some (u196000) ∧ w'.cell? ⟨gb195, 1, none⟩ = some (u196001)) (ds := [8]) #[false, false, false, false, false, false, false, false, false] (by kernel_rfl) rfl rfl (k2_ BK195) (fun hHeld => ?_); refine with_tabW salvorref6_Flags.tab10 salvorref6_Flags.bits10 (fun HT_ HW_ => ?_)
            generalize wr.drew = w18 at HO_196000 HO_196001 BK194 BK195 HB HR198 hHeld ⊢
            refine pu_ 0 43 (lb_ 9 1) rfl rfl (ao_ HT_) ?_
            refine pu_ 2 45 (lb_ 9 5) rfl rfl (ao_ HT_) ?_
            refine pu_ 3 46 (lb_ 9 13) rfl rfl (ao_ HT_) ?_
            refine pu_ 4 47 (lb_ 9 29) rfl rfl (ao_ HT_) ?_
            refine pu_ 5 48 (lb_ 9 61) rfl rfl (ao_ HT_) ?_
            refine tk_ 1 44 (lb_ 9 63) rfl rfl (take_ofW HT_.out HW_.out (by kernel_rfl)) hHeld ?_
            refine one_ (i := 6) (N := some 49) #[true, true, true, true, true, true, true, false, false] rfl rfl (one_of HT_.out (by kernel_rfl)) (by decide) (fun K hK => ?_)
            refine Kd.R_append_rows_step Kd.string (w0 := w) w.heap.size (by rfl) (.tmp 44) (.tmp 48) 23 9 (.string ⟨#[]⟩) 16 rfl Tryd.underlying23 info9 rfl (by decide) (by omega) u196001 x196001_2 (l1.drop ((ji14) : Int).toNat) _ _ _ (fun _ => True) (fun _ => False) rfl rfl ?aO ?aR (fun _ _ h => h) (fun _ h => h.elim) ?aF ?aB ?aS ?aL ?_
            (case aR => first | (rw [← show (l1.drop ((ji14) : Int).toNat).length = (l1.length - (ji14).toNat) from List.length_drop]; repeat (first | exact (Kd.C_below HR198.out HB.out) | (with_reducible refine Kd.C_alloc ?_ _) | (with_reducible refine Kd.C_drewN ?_ _) | (with_reducible refine Kd.C_drew ?_))) | (repeat (first | exact (Kd.C_below HR198.out HB.out) | (with_reducible refine Kd.C_alloc ?_ _) | (with_reducible refine Kd.C_drewN ?_ _) | (with_reducible refine Kd.C_drew ?_))))
            (case aB => exact (bh_ HB))
            (case aF => exact (fun _ _ => trivial))
            (case aO => exact (by (with_reducible repeat (first | apply Kd.R_alloc | apply Kd.R_drewN | apply Kd.R_drew)); exact HO_196001.out))
            (case aS => exact (below_size (bh_ HB)))
            (case aL => have := LMc17.out; have hlx_ := (show (l1.drop ((ji14) : Int).toNat).length = (l1.length - (ji14).toNat) from List.length_drop); omega)
            intro v200 w20 ho hb hg hat
            rw [← Ny199.out] at ho
            have n0_ := Aside0.mk (Kd.R_over' (by (with_reducible repeat (first | apply Kd.R_alloc | apply Kd.R_drewN | apply Kd.R_drew)); exact HO_196000.out) (Kd.R_typed (by (with_reducible repeat (first | apply Kd.R_alloc | apply Kd.R_drewN | apply Kd.R_drew)); exact HO_196001.out)) (by decide) hg)
            have n1_ := Aside0.mk (blk_grown (g := gb194) (o := .cells #[.slice none 0 0, .slice none 0 0] 25 (0, 0)) (bq_ BK194) hg (Kd.R_ne HO_196001.out BK194.out (by decide)))
            have n2_ := Aside0.mk (blk_grown (g := gb195) (o := .cells #[u196000, u196001] 25 (0, 0)) (bq_ BK195) hg (Kd.R_ne HO_196001.out BK195.out (by decide)))
            have n3_ := Aside0.mk (hb)
            have n4_ := Aside0.mk (ho)
            clear HO_196000
            clear BK194
            clear BK195
            clear HB
            clear HO_196001
            have HO_196000 := n0_
            have BK194 := n1_
            have BK195 := n2_
            have HB := n3_
            have HO201 := n4_
            clear n0_ n1_ n2_ n3_ n4_
            clear ho hb hg hat
            obtain ⟨Ao21, co21, eo21⟩ := Kd.R_slice HO201.out
            (first | subst eo21 | (injection eo21 with f1_ f2_ f3_; have f4_ := f1_.symm; have f5_ := f3_.symm; clear f1_ f2_ f3_; subst f4_; subst f5_))
            refine hK.out _ _ (k2_ BK195) (fun hHeld => ?_)
            clear hK K
            refine nm_ 49 ?_
            refine pu_ 7 50 (lb_ 9 255) rfl rfl (ao_ HT_) ?_
            refine last_ (i := 8) (N := none) #[true, true, true, true, true, true, true, true, true] rfl rfl (one_of HT_.out (by kernel_rfl)) (by decide) (fun K hK => ?_)
            have hs22 : w20.cell? ⟨gb195, 1, none⟩ = some (u196001) := (blk_cell BK195.out 1).trans rfl
            have hfs22 := blk_frozen BK195.out 1
            have hns22_0 := NB194_195.out
            have hms22_0 := NB195_194.out
            refine skip_ (w1 := ?_) (by rfl) rfl ?_ ?_
            rotate_left
            ·go_simp
             rfl
            refine hK.out _ _ ?_
            clear hK K
            refine done_ (done_of HT_.out (by kernel_rfl)) ?_
            have hnb23 := NB195_194.out
            have hnc23 := NB194_195.out
            obtain ⟨hcz24_0, hcz24_1, hfz24_0, hfz24_1⟩ := c2_ BK195
            obtain ⟨Ao25, co25, eo25⟩ := Kd.R_slice HO_196000.out
            subst eo25
            obtain ⟨hcz26_0, hcz26_1, hfz26_0, hfz26_1⟩ := c2_ BK194
            try go_wp2
            refine bodyPost_ret (results_ct rfl _ _ gb194 25 #[.slice Ao25 x196000_2.length co25, .slice Ao21 y199.length co21] (0, 0) _ rfl (bp_ BK194) Tryd.underlying25 rfl (by kernel_rfl)) rfl ?_
            exact ⟨_, _, by first | rfl | (simp [errW_none, errW_some] <;> rfl) | (simp only [← hji14]; first | rfl | (simp [errW_none, errW_some] <;> rfl)) | (simp [*, errW_none, errW_some] <;> rfl), by (with_reducible repeat (first | apply Kd.R_alloc | apply Kd.R_drewN | apply Kd.R_drew)); exact Kd.R_mono (Kd.R_far (p := ⟨gb194, 1, none⟩) (Kd.R_far (p := ⟨gb194, 0, none⟩) (Kd.R_far (p := ⟨gb195, 1, none⟩) (Kd.R_types (Kd.R_types HO_196000.out BK195.out (by decide)) BK194.out (by decide)) (fun _ hk => hk.1.2) (.slice Ao21 y199.length co21)) (fun _ hk => hk.2) (.slice Ao25 x196000_2.length co25)) (fun _ hk => hk.2) (.slice Ao21 y199.length co21)) (fun _ hk => trivial), by (with_reducible repeat (first | apply Kd.R_alloc | apply Kd.R_drewN | apply Kd.R_drew)); exact Kd.R_mono (Kd.R_far (p := ⟨gb194, 1, none⟩) (Kd.R_far (p := ⟨gb194, 0, none⟩) (Kd.R_far (p := ⟨gb195, 1, none⟩) (Kd.R_types (Kd.R_types HO201.out BK195.out (by decide)) BK194.out (by decide)) (fun _ hk => hk.1.2) (.slice Ao21 y199.length co21)) (fun _ hk => hk.2) (.slice Ao25 x196000_2.length co25)) (fun _ hk => hk.2) (.slice Ao21 y199.length co21)) (fun _ hk => trivial), bh_ HB⟩
           ·rw [if_neg c17] at H
            exact absurd H (by simp)
          ·rw [if_neg c16] at H
           exact absurd H (by simp)
         ·rw [if_neg c15] at H
          exact absurd H (by simp)
        ·rw [if_neg c13] at H
         have c13b0 : ((rdOf ByteArray.empty l1 x7_2).toList == ([45, 45] : List UInt8)) = false := beq_eq_false_iff_ne.mpr c13
         have c13b1 : ((rdOf ByteArray.empty l1 x7_2).toList != ([45, 45] : List UInt8)) = true := bne_iff_ne.mpr c13
         have HC27 := Aside0.mk H
         clear H
         have p197 : 0 ≤ (x7_2 : Int) := of_decide_eq_true (by first | (with_reducible assumption) | assumption)
         have q197 : x7_2 < (l1.length : Int) := of_decide_eq_true (by first | (with_reducible assumption) | assumption)
         obtain ⟨ad197, e197, hx197_0⟩ := Kd.at_string HR1.out x7_2 p197 q197
         cases e197
         replace hx197_0 := (HB.out.cell (World.block_lt_of_cell? w _ hx197_0)).trans hx197_0
         replace p197 := eq_true p197
         replace q197 := eq_true q197
         go_upto_region 12 with (fail)
         go_cut [52] (fun v52 wc => ∃ (kq : Nat) (x52_26 : Bool), v52 = .bool x52_26 ∧ Aside0 (salvorref6_Flags.j2 kq a0 l1 x7_2 (rdOf ByteArray.empty l1 x7_2) x52_26 x196000_2 x196001_2 = some (r1, r2, r3)) ∧ Aside0 (kq ≤ k2) ∧ Aside0 (Kd.R k31 31 wc w.heap.size (fun _ => True) u196000 x196000_2) ∧ Aside0 (Kd.R Kd.string 9 wc w.heap.size (fun _ => True) u196001 x196001_2) ∧ Aside0 (wc.heap[gb194]? = some (.cells #[(.slice none 0 0), (.slice none 0 0)] 25 (0, 0))) ∧ Aside0 (wc.heap[gb195]? = some (.cells #[u196000, u196001] 25 (0, 0))) ∧ Aside0 (Below w.heap.size w wc))
         case first =>
          have H := HC27.out
          clear HC27
          by_cases c28 : ((rdOf ByteArray.empty l1 x7_2).size : Int) > 2
          ·rw [if_pos c28] at H
           have c28b0 : decide (2 < ((rdOf ByteArray.empty l1 x7_2).size : Int)) = true := decide_eq_true c28
           have c28b1 : decide (2 < (rdOf ByteArray.empty l1 x7_2).size) = true := decide_eq_true (by omega)
           clear c28
           (first | rw [c28b0] | (simp only [i64_w, i32_w]; rw [c28b0]) | skip)
           by_cases c29 : 0 ≤ 2
           ·rw [if_pos c29] at H
            have c29b0 := eq_true c29
            have c29b1 : decide (0 ≤ 2) = true := decide_eq_true c29
            clear c29
            by_cases c30 : 2 ≤ ((rdOf ByteArray.empty l1 x7_2).size : Int)
            ·rw [if_pos c30] at H
             have c30b0 := eq_true c30
             have c30b1 : decide (2 ≤ ((rdOf ByteArray.empty l1 x7_2).size : Int)) = true := decide_eq_true c30
             clear c30
             have H' := Aside0.mk H
             clear H
             go_wp2
             go_meet
             case rel => exact ⟨_, ((((rdOf ByteArray.empty l1 x7_2).extract 0 2).toList == ([45, 45] : List UInt8))), (by first | rfl | (simp; done) | (simp [*]; done)), H', ⟨by have := HJ2.out; have := HK2.out; first | omega | exact Nat.le_refl _⟩, ⟨by (with_reducible repeat (first | apply Kd.R_alloc | apply Kd.R_drewN | apply Kd.R_drew)); exact HO_196000.out⟩, ⟨by (with_reducible repeat (first | apply Kd.R_alloc | apply Kd.R_drewN | apply Kd.R_drew)); exact HO_196001.out⟩, ⟨bq_ BK194⟩, ⟨bq_ BK195⟩, ⟨bh_ HB⟩⟩
            ·rw [if_neg c30] at H
             exact absurd H (by simp)
           ·rw [if_neg c29] at H
            exact absurd H (by simp)
          ·rw [if_neg c28] at H
           have c28b0 : decide (2 < ((rdOf ByteArray.empty l1 x7_2).size : Int)) = false := decide_eq_false c28
           have c28b1 : decide (2 < (rdOf ByteArray.empty l1 x7_2).size) = false := decide_eq_false (by omega)
           clear c28
           (first | rw [c28b0] | (simp only [i64_w, i32_w]; rw [c28b0]) | skip)
           have H' := Aside0.mk H
           clear H
           go_wp2
           go_meet
           case rel => exact ⟨_, (false), (by first | rfl | (simp; done) | (simp [*]; done)), H', ⟨by have := HJ2.out; have := HK2.out; first | omega | exact Nat.le_refl _⟩, ⟨by (with_reducible repeat (first | apply Kd.R_alloc | apply Kd.R_drewN | apply Kd.R_drew)); exact HO_196000.out⟩, ⟨by (with_reducible repeat (first | apply Kd.R_alloc | apply Kd.R_drewN | apply Kd.R_drew)); exact HO_196001.out⟩, ⟨bq_ BK194⟩, ⟨bq_ BK195⟩, ⟨bh_ HB⟩⟩
         case rest =>
          clear HC27
          try clear c1
          try clear p1
          try clear q1
          try clear hx1
          try clear c2
          try clear p2
          try clear c3
          try clear c6
          try clear c6b0
          try clear c6b1
          try clear p6
          try clear c8
          try clear c9
          try clear c11
          try clear c11b0
          try clear c12
          try clear c12b0
          try clear c13
          try clear c13b0
          try clear c13b1
          try clear c15
          try clear c15b0
          try clear c15b1
          try clear c16
          try clear c16b0
          try clear c16b1
          try clear c17
          try clear p19
          try clear q19
          try clear hx19
          try clear c23
          try clear c28
          try clear c28b0
          try clear c28b1
          try clear c29
          try clear c29b0
          try clear c29b1
          try clear c30
          try clear c30b0
          try clear c30b1
          try clear hcz10_0 hcz10_1
          try clear hcz24_0 hcz24_1
          try clear hcz26_0 hcz26_1
          try clear hfz10_0 hfz10_1
          try clear hfz24_0 hfz24_1
          try clear hfz26_0 hfz26_1
          try clear hx197_0
          try clear p197
          try clear p2
          try clear q197
          obtain ⟨kq, x52_26, rfl, HA, HJ26, HO_196000, HO_196001, BK194, BK195, HB⟩ := hcut
          cases kq with
          | zero => exact absurd HA.out (by simp [salvorref6_Flags.j2])
          | succ kj26 =>
           have H := HA.out
           clear HA
           simp only [salvorref6_Flags.j2] at H
           by_cases c31 : x52_26 = true
           ·subst c31
            have H1 : (if 2 ≤ ((rdOf ByteArray.empty l1 x7_2).size : Int) then ((salvorref6_cutAt.f kj26 ((rdOf ByteArray.empty l1 x7_2).extract 2 (rdOf ByteArray.empty l1 x7_2).size) 61).bind fun bt202 => ((salvorref6_letters.f kj26 bt202.1).bind fun t205 => (if t205 = true then (if x196000_2.length < 4398046511104 then (salvorref6_Flags.l0 kj26 a0 l1 (wrap64 (x7_2 + 1)) (x196000_2 ++ [(⟨bt202.1, bt202.2.1⟩ : S31)]) x196001_2) else (none)) else (some (([] : List (S31)), ([] : List ByteArray), false))))) else (none)) = some (r1, r2, r3) := by rw [if_pos rfl] at H; exact H
            clear H
            have H := H1
            clear H1
            by_cases c32 : 2 ≤ ((rdOf ByteArray.empty l1 x7_2).size : Int)
            ·rw [if_pos c32] at H
             have c32b0 := eq_true c32
             have c32b1 : decide (2 ≤ ((rdOf ByteArray.empty l1 x7_2).size : Int)) = true := decide_eq_true c32
             clear c32
             replace H := Option.bind_eq_some_iff.mp H
             obtain ⟨⟨t202, t203, t204⟩, A330, H⟩ := H
             replace H : ((salvorref6_letters.f kj26 t202).bind fun t205 => (if t205 = true then (if x196000_2.length < 4398046511104 then (salvorref6_Flags.l0 kj26 a0 l1 (wrap64 (x7_2 + 1)) (x196000_2 ++ [(⟨t202, t203⟩ : S31)]) x196001_2) else (none)) else (some (([] : List (S31)), ([] : List ByteArray), false)))) = some (r1, r2, r3) := H
             have A33 := Aside0.mk A330
             clear A330
             replace H := Option.bind_eq_some_iff.mp H
             obtain ⟨t205, A340, H⟩ := H
             replace H : (if t205 = true then (if x196000_2.length < 4398046511104 then (salvorref6_Flags.l0 kj26 a0 l1 (wrap64 (x7_2 + 1)) (x196000_2 ++ [(⟨t202, t203⟩ : S31)]) x196001_2) else (none)) else (some (([] : List (S31)), ([] : List ByteArray), false))) = some (r1, r2, r3) := H
             have A34 := Aside0.mk A340
             clear A340
             by_cases c35 : t205 = true
             ·subst c35
              have H1 : (if x196000_2.length < 4398046511104 then (salvorref6_Flags.l0 kj26 a0 l1 (wrap64 (x7_2 + 1)) (x196000_2 ++ [(⟨t202, t203⟩ : S31)]) x196001_2) else (none)) = some (r1, r2, r3) := by rw [if_pos rfl] at H; exact H
              clear H
              have H := H1
              clear H1
              by_cases c36 : x196000_2.length < 4398046511104
              ·rw [if_pos c36] at H
               have LMc36 := Aside0.mk c36
               clear c36
               obtain ⟨y206, hy206⟩ : ∃ y_ : List (S31), y_ = (x196000_2 ++ [(⟨t202, t203⟩ : S31)]) := ⟨_, rfl⟩
               replace H : (salvorref6_Flags.l0 kj26 a0 l1 (wrap64 (x7_2 + 1)) y206 x196001_2) = some (r1, r2, r3) := by first | (rw [hy206]; with_reducible exact H) | (have H2_ := (Option.bind_some _ _).symm.trans H; rw [hy206]; with_reducible exact H2_) | (have H2_ := (Option.bind_some _ _).symm.trans H; with_reducible exact H2_) | with_reducible exact H | (rw [hy206]; exact H) | exact H
               have Ny206 := Aside0.mk hy206
               clear hy206
               have H' := Aside0.mk H
               clear H
               go_wp2_with (first | ((with_reducible refine gate_callee (f := 28) rfl ?_); refine gl_ (some 64) rfl rfl Tryd.func28 (by kernel_rfl) rfl #[.string ((rdOf ByteArray.empty l1 x7_2).extract 2 (rdOf ByteArray.empty l1 x7_2).size), .int .u8 61] rfl ?_; (with_reducible refine (salvorref6_cutAt.calls kj26 ((rdOf ByteArray.empty l1 x7_2).extract 2 (rdOf ByteArray.empty l1 x7_2).size) 61 t202 t203 t204 _ A33.out).mono ?_); rintro e w' ⟨rfl, ⟨nd, rfl⟩⟩; refine ⟨_, rfl, ?_⟩; (try (rw [drewN_self wc]; generalize hq_ : World.drewN wc _ = wc; have n0_ : Aside0 (Kd.R k31 31 wc w.heap.size (fun _ => True) u196000 x196000_2) := ⟨by rw [← hq_]; exact (by (with_reducible repeat (first | apply Kd.R_alloc | apply Kd.R_drewN | apply Kd.R_drew)); exact HO_196000.out)⟩; have n1_ : Aside0 (Kd.R Kd.string 9 wc w.heap.size (fun _ => True) u196001 x196001_2) := ⟨by rw [← hq_]; exact (by (with_reducible repeat (first | apply Kd.R_alloc | apply Kd.R_drewN | apply Kd.R_drew)); exact HO_196001.out)⟩; have n2_ : Aside0 (wc.heap[gb194]? = some (.cells #[.slice none 0 0, .slice none 0 0] 25 (0, 0))) := ⟨by rw [← hq_]; exact (bq_ BK194)⟩; have n3_ : Aside0 (wc.heap[gb195]? = some (.cells #[u196000, u196001] 25 (0, 0))) := ⟨by rw [← hq_]; exact (bq_ BK195)⟩; have n4_ : Aside0 (Below w.heap.size w wc) := ⟨by rw [← hq_]; exact (bh_ HB)⟩; clear HO_196000 HO_196001 BK194 BK195 HB hq_; have HO_196000 := n0_; have HO_196001 := n1_; have BK194 := n2_; have BK195 := n3_; have HB := n4_; clear n0_ n1_ n2_ n3_ n4_))) | ((with_reducible refine gate_callee (f := 29) rfl ?_); refine gl_ (some 69) rfl rfl Tryd.func29 (by kernel_rfl) rfl #[.string t202] rfl ?_; (with_reducible refine (salvorref6_letters.calls kj26 t202 true _ A34.out).mono ?_); rintro e w' ⟨rfl, ⟨nd, rfl⟩⟩; refine ⟨_, rfl, ?_⟩; (try (rw [drewN_self wc]; generalize hq_ : World.drewN wc _ = wc; have n0_ : Aside0 (Kd.R k31 31 wc w.heap.size (fun _ => True) u196000 x196000_2) := ⟨by rw [← hq_]; exact (by (with_reducible repeat (first | apply Kd.R_alloc | apply Kd.R_drewN | apply Kd.R_drew)); exact HO_196000.out)⟩; have n1_ : Aside0 (Kd.R Kd.string 9 wc w.heap.size (fun _ => True) u196001 x196001_2) := ⟨by rw [← hq_]; exact (by (with_reducible repeat (first | apply Kd.R_alloc | apply Kd.R_drewN | apply Kd.R_drew)); exact HO_196001.out)⟩; have n2_ : Aside0 (wc.heap[gb194]? = some (.cells #[.slice none 0 0, .slice none 0 0] 25 (0, 0))) := ⟨by rw [← hq_]; exact (bq_ BK194)⟩; have n3_ : Aside0 (wc.heap[gb195]? = some (.cells #[u196000, u196001] 25 (0, 0))) := ⟨by rw [← hq_]; exact (bq_ BK195)⟩; have n4_ : Aside0 (Below w.heap.size w wc) := ⟨by rw [← hq_]; exact (bh_ HB)⟩; clear HO_196000 HO_196001 BK194 BK195 HB hq_; have HO_196000 := n0_; have HO_196001 := n1_; have BK194 := n2_; have BK195 := n3_; have HB := n4_; clear n0_ n1_ n2_ n3_ n4_)); have hnb37 := NB195_194.out; have hnc37 := NB194_195.out; obtain ⟨hcz38_0, hcz38_1, hfz38_0, hfz38_1⟩ := c2_ BK195) | ((with_reducible refine gate_builtin (b := .append) (xs := #[.tmp 73, .tmp 77]) rfl ?_); (try (refine gate_guard (by rfl) ?_; dsimp only)); at_builtin; refine Kd.R_append k31 (w0 := w) w.heap.size rfl (.tmp 73) (.tmp 77) 22 31 (.agg #[(.string ⟨#[]⟩), (.string ⟨#[]⟩)]) 32 rfl Tryd.underlying22 info31 rfl (by decide) (by omega) u196000 x196000_2 (⟨t202, t203⟩ : S31) [.string t202, .string t203] (fun _ => True) (fun _ => False) rfl rfl ?aP (fun _ hk => hk.elim) ?aF ?aO ?aB ?aS ?aL ?_; (case aP => exact k31_mkM _ _ _ (⟨t202, t203⟩ : S31)); (case aB => exact (bh_ HB)); (case aF => exact (fun _ _ => trivial)); (case aO => exact (by (with_reducible repeat (first | apply Kd.R_alloc | apply Kd.R_drewN | apply Kd.R_drew)); exact HO_196000.out)); (case aS => exact (below_size (bh_ HB))); (case aL => have := LMc36.out; omega); intro v207 w39 ho hb hg hat; rw [← Ny206.out] at ho; have n0_ := Aside0.mk (Kd.R_over' (by (with_reducible repeat (first | apply Kd.R_alloc | apply Kd.R_drewN | apply Kd.R_drew)); exact HO_196001.out) (Kd.R_typed (by (with_reducible repeat (first | apply Kd.R_alloc | apply Kd.R_drewN | apply Kd.R_drew)); exact HO_196000.out)) (by decide) hg); have n1_ := Aside0.mk (blk_grown (g := gb194) (o := .cells #[.slice none 0 0, .slice none 0 0] 25 (0, 0)) (bq_ BK194) hg (Kd.R_ne HO_196000.out BK194.out (by decide))); have n2_ := Aside0.mk (blk_grown (g := gb195) (o := .cells #[u196000, u196001] 25 (0, 0)) (bq_ BK195) hg (Kd.R_ne HO_196000.out BK195.out (by decide))); have n3_ := Aside0.mk (hb); have n4_ := Aside0.mk (ho); clear HO_196001; clear BK194; clear BK195; clear HB; clear HO_196000; have HO_196001 := n0_; have BK194 := n1_; have BK195 := n2_; have HB := n3_; have HO208 := n4_; clear n0_ n1_ n2_ n3_ n4_; clear ho hb hg hat; obtain ⟨Ao40, co40, eo40⟩ := Kd.R_slice HO208.out; subst eo40; obtain ⟨hcz41_0, hcz41_1, hfz41_0, hfz41_1⟩ := c2_ BK195))
               go_roundg kj26
               case measure => have := HJ2.out; have := HK2.out; have := HJ26.out; omega
               case rel => exact ⟨(wrap64 (x7_2 + 1)), (y206), (x196001_2), (.slice Ao40 y206.length co40), (u196001), (by first | rfl | (simp; done) | (simp [*]; done)), H', ⟨by have := HJ2.out; have := HK2.out; have := HJ26.out; omega⟩, ⟨by (with_reducible repeat (first | apply Kd.R_alloc | apply Kd.R_drewN | apply Kd.R_drew)); exact Kd.R_mono (Kd.R_far (p := ⟨gb195, 0, none⟩) (Kd.R_types HO208.out BK195.out (by decide)) (fun _ hk => hk.2) (.slice Ao40 y206.length co40)) (fun _ hk => trivial)⟩, ⟨by (with_reducible repeat (first | apply Kd.R_alloc | apply Kd.R_drewN | apply Kd.R_drew)); exact Kd.R_mono (Kd.R_far (p := ⟨gb195, 0, none⟩) (Kd.R_types HO_196001.out BK195.out (by decide)) (fun _ hk => hk.2) (.slice Ao40 y206.length co40)) (fun _ hk => trivial)⟩, ⟨by (with_reducible repeat (first | refine blk_drewN ?_ _ | refine blk_drew ?_ | refine blk_alloc ?_ _)); refine blk_far ?_ NB194_195.out _; (with_reducible repeat (first | refine blk_drewN ?_ _ | refine blk_drew ?_ | refine blk_alloc ?_ _)); exact BK194.out⟩, ⟨by (with_reducible repeat (first | refine blk_drewN ?_ _ | refine blk_drew ?_ | refine blk_alloc ?_ _)); refine blk_put (cs := #[u196000, u196001]) ?_ 0 _ rfl; (with_reducible repeat (first | refine blk_drewN ?_ _ | refine blk_drew ?_ | refine blk_alloc ?_ _)); exact BK195.out⟩, ⟨bh_ HB⟩⟩
              ·rw [if_neg c36] at H
               exact absurd H (by simp)
             ·replace c35 := Bool.eq_false_iff.mpr c35
              subst c35
              have H1 : (some (([] : List (S31)), ([] : List ByteArray), false)) = some (r1, r2, r3) := by rw [if_neg (show ¬ (false = true) by decide)] at H; exact H
              clear H
              have H := H1
              clear H1
              simp only [Option.some.injEq, Prod.mk.injEq] at H
              obtain ⟨rfl, rfl, rfl⟩ := H
              go_wp2_with (first | ((with_reducible refine gate_callee (f := 28) rfl ?_); refine gl_ (some 64) rfl rfl Tryd.func28 (by kernel_rfl) rfl #[.string ((rdOf ByteArray.empty l1 x7_2).extract 2 (rdOf ByteArray.empty l1 x7_2).size), .int .u8 61] rfl ?_; (with_reducible refine (salvorref6_cutAt.calls kj26 ((rdOf ByteArray.empty l1 x7_2).extract 2 (rdOf ByteArray.empty l1 x7_2).size) 61 t202 t203 t204 _ A33.out).mono ?_); rintro e w' ⟨rfl, ⟨nd, rfl⟩⟩; refine ⟨_, rfl, ?_⟩; (try (rw [drewN_self wc]; generalize hq_ : World.drewN wc _ = wc; have n0_ : Aside0 (Kd.R k31 31 wc w.heap.size (fun _ => True) u196000 x196000_2) := ⟨by rw [← hq_]; exact (by (with_reducible repeat (first | apply Kd.R_alloc | apply Kd.R_drewN | apply Kd.R_drew)); exact HO_196000.out)⟩; have n1_ : Aside0 (Kd.R Kd.string 9 wc w.heap.size (fun _ => True) u196001 x196001_2) := ⟨by rw [← hq_]; exact (by (with_reducible repeat (first | apply Kd.R_alloc | apply Kd.R_drewN | apply Kd.R_drew)); exact HO_196001.out)⟩; have n2_ : Aside0 (wc.heap[gb194]? = some (.cells #[.slice none 0 0, .slice none 0 0] 25 (0, 0))) := ⟨by rw [← hq_]; exact (bq_ BK194)⟩; have n3_ : Aside0 (wc.heap[gb195]? = some (.cells #[u196000, u196001] 25 (0, 0))) := ⟨by rw [← hq_]; exact (bq_ BK195)⟩; have n4_ : Aside0 (Below w.heap.size w wc) := ⟨by rw [← hq_]; exact (bh_ HB)⟩; clear HO_196000 HO_196001 BK194 BK195 HB hq_; have HO_196000 := n0_; have HO_196001 := n1_; have BK194 := n2_; have BK195 := n3_; have HB := n4_; clear n0_ n1_ n2_ n3_ n4_))) | ((with_reducible refine gate_callee (f := 29) rfl ?_); refine gl_ (some 69) rfl rfl Tryd.func29 (by kernel_rfl) rfl #[.string t202] rfl ?_; (with_reducible refine (salvorref6_letters.calls kj26 t202 false _ A34.out).mono ?_); rintro e w' ⟨rfl, ⟨nd, rfl⟩⟩; refine ⟨_, rfl, ?_⟩; (try (rw [drewN_self wc]; generalize hq_ : World.drewN wc _ = wc; have n0_ : Aside0 (Kd.R k31 31 wc w.heap.size (fun _ => True) u196000 x196000_2) := ⟨by rw [← hq_]; exact (by (with_reducible repeat (first | apply Kd.R_alloc | apply Kd.R_drewN | apply Kd.R_drew)); exact HO_196000.out)⟩; have n1_ : Aside0 (Kd.R Kd.string 9 wc w.heap.size (fun _ => True) u196001 x196001_2) := ⟨by rw [← hq_]; exact (by (with_reducible repeat (first | apply Kd.R_alloc | apply Kd.R_drewN | apply Kd.R_drew)); exact HO_196001.out)⟩; have n2_ : Aside0 (wc.heap[gb194]? = some (.cells #[.slice none 0 0, .slice none 0 0] 25 (0, 0))) := ⟨by rw [← hq_]; exact (bq_ BK194)⟩; have n3_ : Aside0 (wc.heap[gb195]? = some (.cells #[u196000, u196001] 25 (0, 0))) := ⟨by rw [← hq_]; exact (bq_ BK195)⟩; have n4_ : Aside0 (Below w.heap.size w wc) := ⟨by rw [← hq_]; exact (bh_ HB)⟩; clear HO_196000 HO_196001 BK194 BK195 HB hq_; have HO_196000 := n0_; have HO_196001 := n1_; have BK194 := n2_; have BK195 := n3_; have HB := n4_; clear n0_ n1_ n2_ n3_ n4_)); have hnb42 := NB194_195.out; have hnc42 := NB195_194.out; obtain ⟨hcz43_0, hcz43_1, hfz43_0, hfz43_1⟩ := c2_ BK194))
              refine bodyPost_ret (results_ct rfl _ _ gb194 25 #[.slice none 0 0, .slice none 0 0] (0, 0) _ rfl (bp_ BK194) Tryd.underlying25 rfl (by kernel_rfl)) rfl ?_
              exact ⟨_, _, by first | rfl | (simp [errW_none, errW_some] <;> rfl) | (simp [*, errW_none, errW_some] <;> rfl), by first | exact Kd.R_nil _ _ _ _ _ | exact Kd.N_nil _ _ _ _ _ | exact Kd.V_nil _ _ _ _ _ | exact Kd.Q_nil _ _ _ _ _ | exact Kd.S_nil _ _ _ _ _, by first | exact Kd.R_nil _ _ _ _ _ | exact Kd.N_nil _ _ _ _ _ | exact Kd.V_nil _ _ _ _ _ | exact Kd.Q_nil _ _ _ _ _ | exact Kd.S_nil _ _ _ _ _, bh_ HB⟩
            ·rw [if_neg c32] at H
             exact absurd H (by simp)
           ·replace c31 := Bool.eq_false_iff.mpr c31
            subst c31
            have H1 : (if ((rdOf ByteArray.empty l1 x7_2).size : Int) > 1 then (if 0 < ((rdOf ByteArray.empty l1 x7_2).size : Int) then (salvorref6_Flags.j3 kj26 a0 l1 x7_2 (rdOf ByteArray.empty l1 x7_2) ((bt (rdOf ByteArray.empty l1 x7_2) 0) == 45) x196000_2 x196001_2) else (none)) else (salvorref6_Flags.j3 kj26 a0 l1 x7_2 (rdOf ByteArray.empty l1 x7_2) false x196000_2 x196001_2)) = some (r1, r2, r3) := by rw [if_neg (show ¬ (false = true) by decide)] at H; exact H
            clear H
            have H := H1
            clear H1
            have HC44 := Aside0.mk H
            clear H
            go_upto_region 17 with (fail)
            go_cut [80] (fun v80 wc => ∃ (kq : Nat) (x80_43 : Bool), v80 = .bool x80_43 ∧ Aside0 (salvorref6_Flags.j3 kq a0 l1 x7_2 (rdOf ByteArray.empty l1 x7_2) x80_43 x196000_2 x196001_2 = some (r1, r2, r3)) ∧ Aside0 (kq ≤ kj26) ∧ Aside0 (Kd.R k31 31 wc w.heap.size (fun _ => True) u196000 x196000_2) ∧ Aside0 (Kd.R Kd.string 9 wc w.heap.size (fun _ => True) u196001 x196001_2) ∧ Aside0 (wc.heap[gb194]? = some (.cells #[(.slice none 0 0), (.slice none 0 0)] 25 (0, 0))) ∧ Aside0 (wc.heap[gb195]? = some (.cells #[u196000, u196001] 25 (0, 0))) ∧ Aside0 (Below w.heap.size w wc))
            case first =>
             have H := HC44.out
             clear HC44
             by_cases c45 : ((rdOf ByteArray.empty l1 x7_2).size : Int) > 1
             ·rw [if_pos c45] at H
              have c45b0 : decide (1 < ((rdOf ByteArray.empty l1 x7_2).size : Int)) = true := decide_eq_true c45
              have c45b1 : decide (1 < (rdOf ByteArray.empty l1 x7_2).size) = true := decide_eq_true (by omega)
              clear c45
              (first | rw [c45b0] | (simp only [i64_w, i32_w]; rw [c45b0]) | skip)
              by_cases c46 : 0 < ((rdOf ByteArray.empty l1 x7_2).size : Int)
              ·rw [if_pos c46] at H
               have c46b0 : decide (0 < ((rdOf ByteArray.empty l1 x7_2).size : Int)) = true := decide_eq_true c46
               have c46b1 : decide (0 < (rdOf ByteArray.empty l1 x7_2).size) = true := decide_eq_true (by omega)
               clear c46
               have H' := Aside0.mk H
               clear H
               have p47 : 0 ≤ (0 : Int) := (by omega)
               have q47 : 0 < (rdOf ByteArray.empty l1 x7_2).size := (by have : (0 : Int) < ((rdOf ByteArray.empty l1 x7_2).size : Int) := of_decide_eq_true (by first | (with_reducible assumption) | assumption); omega)
               have hx47 : ∀ h : 0 < (rdOf ByteArray.empty l1 x7_2).size, (((rdOf ByteArray.empty l1 x7_2)[0]'h).toNat : Int) = bt (rdOf ByteArray.empty l1 x7_2) 0 := bt_at (rdOf ByteArray.empty l1 x7_2) 0
               clear p47
               have qi47 : (0 < ((rdOf ByteArray.empty l1 x7_2).size : Int)) = True := eq_true (of_decide_eq_true (by first | (with_reducible assumption) | assumption))
               replace q47 := eq_true q47
               go_wp2
               go_meet
               case rel => exact ⟨_, (((bt (rdOf ByteArray.empty l1 x7_2) 0) == 45)), (by first | rfl | (simp; done) | (simp [*]; done)), H', ⟨by have := HJ2.out; have := HK2.out; have := HJ26.out; first | omega | exact Nat.le_refl _⟩, ⟨by (with_reducible repeat (first | apply Kd.R_alloc | apply Kd.R_drewN | apply Kd.R_drew)); exact HO_196000.out⟩, ⟨by (with_reducible repeat (first | apply Kd.R_alloc | apply Kd.R_drewN | apply Kd.R_drew)); exact HO_196001.out⟩, ⟨bq_ BK194⟩, ⟨bq_ BK195⟩, ⟨bh_ HB⟩⟩
              ·rw [if_neg c46] at H
               exact absurd H (by simp)
             ·rw [if_neg c45] at H
              have c45b0 : decide (1 < ((rdOf ByteArray.empty l1 x7_2).size : Int)) = false := decide_eq_false c45
              have c45b1 : decide (1 < (rdOf ByteArray.empty l1 x7_2).size) = false := decide_eq_false (by omega)
              clear c45
              (first | rw [c45b0] | (simp only [i64_w, i32_w]; rw [c45b0]) | skip)
              have H' := Aside0.mk H
              clear H
              go_wp2
              go_meet
              case rel => exact ⟨_, (false), (by first | rfl | (simp; done) | (simp [*]; done)), H', ⟨by have := HJ2.out; have := HK2.out; have := HJ26.out; first | omega | exact Nat.le_refl _⟩, ⟨by (with_reducible repeat (first | apply Kd.R_alloc | apply Kd.R_drewN | apply Kd.R_drew)); exact HO_196000.out⟩, ⟨by (with_reducible repeat (first | apply Kd.R_alloc | apply Kd.R_drewN | apply Kd.R_drew)); exact HO_196001.out⟩, ⟨bq_ BK194⟩, ⟨bq_ BK195⟩, ⟨bh_ HB⟩⟩
            case rest =>
             clear HC44
             try clear c1
             try clear p1
             try clear q1
             try clear hx1
             try clear c2
             try clear p2
             try clear c3
             try clear c4
             try clear p4
             try clear q4
             try clear hx4
             try clear qi4
             try clear c6
             try clear c6b0
             try clear c6b1
             try clear p6
             try clear c8
             try clear c9
             try clear c11
             try clear c11b0
             try clear c12
             try clear c12b0
             try clear c13
             try clear c13b0
             try clear c13b1
             try clear c15
             try clear c15b0
             try clear c15b1
             try clear c16
             try clear c16b0
             try clear c16b1
             try clear c17
             try clear p19
             try clear q19
             try clear hx19
             try clear c23
             try clear c28
             try clear c28b0
             try clear c28b1
             try clear c29
             try clear c29b0
             try clear c29b1
             try clear c30
             try clear c30b0
             try clear c30b1
             try clear c31
             try clear c32
             try clear c32b0
             try clear c32b1
             try clear c35
             try clear c36
             try clear c37
             try clear c42
             try clear c45
             try clear c45b0
             try clear c45b1
             try clear c46
             try clear c46b0
             try clear c46b1
             try clear p47
             try clear q47
             try clear hx47
             try clear qi47
             try clear hcz10_0 hcz10_1
             try clear hcz24_0 hcz24_1
             try clear hcz26_0 hcz26_1
             try clear hcz38_0 hcz38_1
             try clear hcz41_0 hcz41_1
             try clear hcz43_0 hcz43_1
             try clear hfz10_0 hfz10_1
             try clear hfz24_0 hfz24_1
             try clear hfz26_0 hfz26_1
             try clear hfz38_0 hfz38_1
             try clear hfz41_0 hfz41_1
             try clear hfz43_0 hfz43_1
             try clear hx197_0
             try clear p1
             try clear p19
             try clear p197
             try clear p2
             try clear p47
             try clear p6
             try clear q1
             try clear q19
             try clear q197
             try clear q47
             obtain ⟨kq, x80_43, rfl, HA, HJ43, HO_196000, HO_196001, BK194, BK195, HB⟩ := hcut
             cases kq with
             | zero => exact absurd HA.out (by simp [salvorref6_Flags.j3])
             | succ kj43 =>
              have H := HA.out
              clear HA
              simp only [salvorref6_Flags.j3] at H
              by_cases c48 : x80_43 = true
              ·subst c48
               have H1 : (salvorref6_Flags.l1 kj43 a0 l1 x7_2 (rdOf ByteArray.empty l1 x7_2) 1 x196000_2 x196001_2) = some (r1, r2, r3) := by rw [if_pos rfl] at H; exact H
               clear H
               have H := H1
               clear H1
               have H' := Aside0.mk H
               clear H
               go_wp2
               go_loopg [7, 12] kj43 (fun kq v7 v12 w' => ∃ (x7_5 : Int) (x12_5 : Int) (x196000_5 : List (S31)) (u196000 : Value), v7 = .int .i64 x7_5 ∧ v12 = .int .i64 x12_5 ∧ Aside0 (salvorref6_Flags.l1 kq a0 l1 x7_5 (rdOf ByteArray.empty l1 x7_2) x12_5 x196000_5 x196001_2 = some (r1, r2, r3)) ∧ Aside0 (kq ≤ kj43) ∧ Aside0 (Kd.R k31 31 w' w.heap.size (fun _ => True) u196000 x196000_5) ∧ Aside0 (Kd.R Kd.string 9 w' w.heap.size (fun _ => True) u196001 x196001_2) ∧ Aside0 (w'.heap[gb194]? = some (.cells #[(.slice none 0 0), (.slice none 0 0)] 25 (0, 0))) ∧ Aside0 (w'.heap[gb195]? = some (.cells #[u196000, u196001] 25 (0, 0))) ∧ Aside0 (Below w.heap.size w w'))
               case atStart => exact ⟨(x7_2), (1), (x196000_2), (u196000), (by first | rfl | (simp; done) | (simp [*]; done)), (by first | rfl | (simp; done) | (simp [*]; done)), H', ⟨Nat.le_refl _⟩, ⟨by (with_reducible repeat (first | apply Kd.R_alloc | apply Kd.R_drewN | apply Kd.R_drew)); exact HO_196000.out⟩, ⟨by (with_reducible repeat (first | apply Kd.R_alloc | apply Kd.R_drewN | apply Kd.R_drew)); exact HO_196001.out⟩, ⟨bq_ BK194⟩, ⟨bq_ BK195⟩, ⟨bh_ HB⟩⟩
               case round =>
                clear H'
                try clear c1
                try clear p1
                try clear q1
                try clear hx1
                try clear c2
                try clear p2
                try clear c3
                try clear c4
                try clear p4
                try clear q4
                try clear hx4
                try clear qi4
                try clear c6
                try clear c6b0
                try clear c6b1
                try clear p6
                try clear c8
                try clear c9
                try clear c11
                try clear c11b0
                try clear c12
                try clear c12b0
                try clear c13
                try clear c13b0
                try clear c13b1
                try clear c15
                try clear c15b0
                try clear c15b1
                try clear c16
                try clear c16b0
                try clear c16b1
                try clear c17
                try clear p19
                try clear q19
                try clear hx19
                try clear c23
                try clear c28
                try clear c28b0
                try clear c28b1
                try clear c29
                try clear c29b0
                try clear c29b1
                try clear c30
                try clear c30b0
                try clear c30b1
                try clear c31
                try clear c32
                try clear c32b0
                try clear c32b1
                try clear c35
                try clear c36
                try clear c37
                try clear c42
                try clear c45
                try clear c45b0
                try clear c45b1
                try clear c46
                try clear c46b0
                try clear c46b1
                try clear p47
                try clear q47
                try clear hx47
                try clear qi47
                try clear c48
                try clear hcz10_0 hcz10_1
                try clear hcz24_0 hcz24_1
                try clear hcz26_0 hcz26_1
                try clear hcz38_0 hcz38_1
                try clear hcz41_0 hcz41_1
                try clear hcz43_0 hcz43_1
                try clear hfz10_0 hfz10_1
                try clear hfz24_0 hfz24_1
                try clear hfz26_0 hfz26_1
                try clear hfz38_0 hfz38_1
                try clear hfz41_0 hfz41_1
                try clear hfz43_0 hfz43_1
                try clear hx197_0
                try clear p1
                try clear p19
                try clear p197
                try clear p2
                try clear p4
                try clear p47
                try clear p6
                try clear q1
                try clear q19
                try clear q197
                try clear q4
                try clear q47
                obtain ⟨x7_5, x12_5, x196000_5, u196000, rfl, rfl, HA, HK5, HO_196000, HO_196001, BK194, BK195, HB⟩ := hrel
                cases gk with
                | zero => exact absurd HA.out (by simp [salvorref6_Flags.l1])
                | succ k5 =>
                 have H := HA.out
                 clear HA
                 simp only [salvorref6_Flags.l1] at H
                 by_cases c49 : x12_5 < ((rdOf ByteArray.empty l1 x7_2).size : Int)
                 ·rw [if_pos c49] at H
                  have c49b0 : decide (x12_5 < ((rdOf ByteArray.empty l1 x7_2).size : Int)) = true := decide_eq_true c49
                  clear c49
                  by_cases c50 : 0 ≤ x12_5
                  ·rw [if_pos c50] at H
                   have c50b0 := eq_true c50
                   have c50b1 : decide (0 ≤ x12_5) = true := decide_eq_true c50
                   clear c50
                   by_cases c51 : x12_5 ≤ (wrap64 (x12_5 + 1))
                   ·rw [if_pos c51] at H
                    have c51b0 := eq_true c51
                    have c51b1 : decide (x12_5 ≤ (wrap64 (x12_5 + 1))) = true := decide_eq_true c51
                    by_cases c52 : (wrap64 (x12_5 + 1)) ≤ ((rdOf ByteArray.empty l1 x7_2).size : Int)
                    ·rw [if_pos c52] at H
                     have c52b0 := eq_true c52
                     have c52b1 : decide ((wrap64 (x12_5 + 1)) ≤ ((rdOf ByteArray.empty l1 x7_2).size : Int)) = true := decide_eq_true c52
                     replace H := Option.bind_eq_some_iff.mp H
                     obtain ⟨t210, A540, H⟩ := H
                     replace H : (if t210 = 0 then (some (([] : List (S31)), ([] : List ByteArray), false)) else (if t210 = 2 then (salvorref6_Flags.j5 k5 a0 l1 x7_5 (rdOf ByteArray.empty l1 x7_2) x12_5 t210 (decide ((wrap64 (x12_5 + 1)) < ((rdOf ByteArray.empty l1 x7_2).size : Int))) x196000_5 x196001_2 ((rdOf ByteArray.empty l1 x7_2).extract (x12_5 : Int).toNat ((wrap64 (x12_5 + 1)) : Int).toNat) (⟨#[]⟩ : ByteArray)) else (salvorref6_Flags.j5 k5 a0 l1 x7_5 (rdOf ByteArray.empty l1 x7_2) x12_5 t210 false x196000_5 x196001_2 ((rdOf ByteArray.empty l1 x7_2).extract (x12_5 : Int).toNat ((wrap64 (x12_5 + 1)) : Int).toNat) (⟨#[]⟩ : ByteArray)))) = some (r1, r2, r3) := H
                     have A54 := Aside0.mk A540
                     clear A540
                     by_cases c55 : t210 = 0
                     ·rw [if_pos c55] at H
                      have c55b0 : (t210 == 0) = true := beq_iff_eq.mpr c55
                      have c55b1 : (t210 != 0) = false := bne_eq_false_iff_eq.mpr c55
                      clear c55
                      simp only [Option.some.injEq, Prod.mk.injEq] at H
                      obtain ⟨rfl, rfl, rfl⟩ := H
                      go_wp2_with (first | ((with_reducible refine gate_dst (N := 13) rfl ?_); (try (refine gate_guard (by rfl) ?_; dsimp only)); refine box_e 13 #[.string (⟨#[]⟩ : ByteArray), .string (⟨#[]⟩ : ByteArray)] 31 ?_; intro gb209 hg w56 hbox hb; have n0_ := Aside0.mk (Kd.R_below (Kd.R_elderB (by (with_reducible repeat (first | apply Kd.R_alloc | apply Kd.R_drewN | apply Kd.R_drew)); exact HO_196000.out) gb209 (Nat.le_of_eq hg.symm)) hb); have n1_ := Aside0.mk (Kd.R_below (by (with_reducible repeat (first | apply Kd.R_alloc | apply Kd.R_drewN | apply Kd.R_drew)); exact HO_196001.out) hb); have n2_ := bb_ BK194 hb; have n3_ := bb_ BK195 hb; have n4_ := bs_ HB hb; have n5_ := Aside0.mk hbox; have n6_ := bg_ HB hg; have n7_ := bg_ HB hg; have n8_ := bn_ BK194 hg; have n9_ := bm_ BK194 hg; have n10_ := bn_ BK195 hg; have n11_ := bm_ BK195 hg; clear HO_196000; clear HO_196001; clear BK194; clear BK195; clear HB; have HO_196000 := n0_; have HO_196001 := n1_; have BK194 := n2_; have BK195 := n3_; have HB := n4_; have BK209 := n5_; have GW209 := n6_; have GE209 := n7_; have NB194_209 := n8_; have NB209_194 := n9_; have NB195_209 := n10_; have NB209_195 := n11_; clear n0_ n1_ n2_ n3_ n4_ n5_ n6_ n7_ n8_ n9_ n10_ n11_; clear hb hbox hg; have hnb57 := NB209_194.out; have hnc57 := NB194_209.out; have hnb58 := NB209_195.out; have hnc58 := NB195_209.out; obtain ⟨hcz59_0, hcz59_1, hfz59_0, hfz59_1⟩ := c2_ BK209; have p53 : 0 ≤ (x12_5 : Int) := of_decide_eq_true (by first | (with_reducible assumption) | assumption); have q53 : x12_5 < ((rdOf ByteArray.empty l1 x7_2).size : Int) := of_decide_eq_true (by first | (with_reducible assumption) | assumption); have hx53 := bt_at (rdOf ByteArray.empty l1 x7_2) x12_5; replace p53 := eq_true p53; replace q53 := eq_true q53) | ((with_reducible refine gate_callee (f := 32) rfl ?_); refine gl_ (some 105) rfl rfl Tryd.func32 (by kernel_rfl) rfl #[.string a0, .int .u8 (bt (rdOf ByteArray.empty l1 x7_2) x12_5)] rfl ?_; (with_reducible refine (salvorref6_kind.calls k5 a0 (bt (rdOf ByteArray.empty l1 x7_2) x12_5) t210 _ A54.out).mono ?_); rintro e w' ⟨rfl, ⟨nd, rfl⟩⟩; refine ⟨_, rfl, ?_⟩; have hnb60 := NB194_195.out; have hnc60 := NB195_194.out; obtain ⟨hcz61_0, hcz61_1, hfz61_0, hfz61_1⟩ := c2_ BK194))
                      refine bodyPost_ret (results_ct rfl _ _ gb194 25 #[.slice none 0 0, .slice none 0 0] (0, 0) _ rfl (bp_ BK194) Tryd.underlying25 rfl (by kernel_rfl)) rfl ?_
                      exact ⟨_, _, by first | rfl | (simp [errW_none, errW_some] <;> rfl) | (simp [*, errW_none, errW_some] <;> rfl), by first | exact Kd.R_nil _ _ _ _ _ | exact Kd.N_nil _ _ _ _ _ | exact Kd.V_nil _ _ _ _ _ | exact Kd.Q_nil _ _ _ _ _ | exact Kd.S_nil _ _ _ _ _, by first | exact Kd.R_nil _ _ _ _ _ | exact Kd.N_nil _ _ _ _ _ | exact Kd.V_nil _ _ _ _ _ | exact Kd.Q_nil _ _ _ _ _ | exact Kd.S_nil _ _ _ _ _, bh_ HB⟩
                     ·rw [if_neg c55] at H
                      have c55b0 : (t210 == 0) = false := beq_eq_false_iff_ne.mpr c55
                      have c55b1 : (t210 != 0) = true := bne_iff_ne.mpr c55
                      have HC62 := Aside0.mk H
                      clear H
                      go_upto_region 25 with (first | ((with_reducible refine gate_dst (N := 13) rfl ?_); (try (refine gate_guard (by rfl) ?_; dsimp only)); refine box_e 13 #[.string (⟨#[]⟩ : ByteArray), .string (⟨#[]⟩ : ByteArray)] 31 ?_; intro gb209 hg w63 hbox hb; have n0_ := Aside0.mk (Kd.R_below (Kd.R_elderB (by (with_reducible repeat (first | apply Kd.R_alloc | apply Kd.R_drewN | apply Kd.R_drew)); exact HO_196000.out) gb209 (Nat.le_of_eq hg.symm)) hb); have n1_ := Aside0.mk (Kd.R_below (by (with_reducible repeat (first | apply Kd.R_alloc | apply Kd.R_drewN | apply Kd.R_drew)); exact HO_196001.out) hb); have n2_ := bb_ BK194 hb; have n3_ := bb_ BK195 hb; have n4_ := bs_ HB hb; have n5_ := Aside0.mk hbox; have n6_ := bg_ HB hg; have n7_ := bg_ HB hg; have n8_ := bn_ BK194 hg; have n9_ := bm_ BK194 hg; have n10_ := bn_ BK195 hg; have n11_ := bm_ BK195 hg; clear HO_196000; clear HO_196001; clear BK194; clear BK195; clear HB; have HO_196000 := n0_; have HO_196001 := n1_; have BK194 := n2_; have BK195 := n3_; have HB := n4_; have BK209 := n5_; have GW209 := n6_; have GE209 := n7_; have NB194_209 := n8_; have NB209_194 := n9_; have NB195_209 := n10_; have NB209_195 := n11_; clear n0_ n1_ n2_ n3_ n4_ n5_ n6_ n7_ n8_ n9_ n10_ n11_; clear hb hbox hg; have hnb64 := NB209_194.out; have hnc64 := NB194_209.out; have hnb65 := NB209_195.out; have hnc65 := NB195_209.out; obtain ⟨hcz66_0, hcz66_1, hfz66_0, hfz66_1⟩ := c2_ BK209; have p53 : 0 ≤ (x12_5 : Int) := of_decide_eq_true (by first | (with_reducible assumption) | assumption); have q53 : x12_5 < ((rdOf ByteArray.empty l1 x7_2).size : Int) := of_decide_eq_true (by first | (with_reducible assumption) | assumption); have hx53 := bt_at (rdOf ByteArray.empty l1 x7_2) x12_5; replace p53 := eq_true p53; replace q53 := eq_true q53) | ((with_reducible refine gate_callee (f := 32) rfl ?_); refine gl_ (some 105) rfl rfl Tryd.func32 (by kernel_rfl) rfl #[.string a0, .int .u8 (bt (rdOf ByteArray.empty l1 x7_2) x12_5)] rfl ?_; (with_reducible refine (salvorref6_kind.calls k5 a0 (bt (rdOf ByteArray.empty l1 x7_2) x12_5) t210 _ A54.out).mono ?_); rintro e w' ⟨rfl, ⟨nd, rfl⟩⟩; refine ⟨_, rfl, ?_⟩))
                      (try simp only [Act.put, List.setIfInBounds_toArray, List.set_cons_zero, List.set_cons_succ])
                      go_cut [117] (fun v117 wc => ∃ (kq : Nat) (x117_61 : Bool), v117 = .bool x117_61 ∧ Aside0 (salvorref6_Flags.j5 kq a0 l1 x7_5 (rdOf ByteArray.empty l1 x7_2) x12_5 t210 x117_61 x196000_5 x196001_2 ((rdOf ByteArray.empty l1 x7_2).extract (x12_5 : Int).toNat ((wrap64 (x12_5 + 1)) : Int).toNat) (⟨#[]⟩ : ByteArray) = some (r1, r2, r3)) ∧ Aside0 (kq ≤ k5) ∧ Aside0 (Kd.R k31 31 wc w.heap.size (fun k_ => k_ ≠ gb209) u196000 x196000_5) ∧ Aside0 (Kd.R Kd.string 9 wc w.heap.size (fun _ => True) u196001 x196001_2) ∧ Aside0 (wc.heap[gb194]? = some (.cells #[(.slice none 0 0), (.slice none 0 0)] 25 (0, 0))) ∧ Aside0 (wc.heap[gb195]? = some (.cells #[u196000, u196001] 25 (0, 0))) ∧ Aside0 (wc.heap[gb209]? = some (.cells #[.string ((rdOf ByteArray.empty l1 x7_2).extract (x12_5 : Int).toNat ((wrap64 (x12_5 + 1)) : Int).toNat), .string (⟨#[]⟩ : ByteArray)] 31 (0, 0))) ∧ Aside0 (Below w.heap.size w wc))
                      case first =>
                       have H := HC62.out
                       clear HC62
                       by_cases c67 : t210 = 2
                       ·rw [if_pos c67] at H
                        have c67b0 : (t210 == 2) = true := beq_iff_eq.mpr c67
                        have c67b1 : (t210 != 2) = false := bne_eq_false_iff_eq.mpr c67
                        clear c67
                        (first | rw [c67b0] | (simp only [i64_w, i32_w]; rw [c67b0]) | skip)
                        have H' := Aside0.mk H
                        clear H
                        go_wp2
                        go_meet
                        case rel => exact ⟨_, (decide ((wrap64 (x12_5 + 1)) < ((rdOf ByteArray.empty l1 x7_2).size : Int))), (by first | rfl | (simp; done) | (simp [*]; done)), H', ⟨by have := HJ2.out; have := HK2.out; have := HJ26.out; have := HJ43.out; have := HK5.out; first | omega | exact Nat.le_refl _⟩, ⟨by (with_reducible repeat (first | apply Kd.R_alloc | apply Kd.R_drewN | apply Kd.R_drew)); exact Kd.R_mono (Kd.R_far (p := ⟨gb209, 1, none⟩) (Kd.R_far (p := ⟨gb209, 0, none⟩) (Kd.R_mono HO_196000.out (fun k_ hk => (⟨hk, hk.2⟩ : _ ∧ k_ ≠ gb209))) (fun _ hk => hk.2) (.string ((rdOf ByteArray.empty l1 x7_2).extract (x12_5 : Int).toNat ((wrap64 (x12_5 + 1)) : Int).toNat))) (fun _ hk => hk.2) (.string (⟨#[]⟩ : ByteArray))) (fun _ hk => hk.1.2)⟩, ⟨by (with_reducible repeat (first | apply Kd.R_alloc | apply Kd.R_drewN | apply Kd.R_drew)); exact Kd.R_mono (Kd.R_far (p := ⟨gb209, 1, none⟩) (Kd.R_far (p := ⟨gb209, 0, none⟩) (Kd.R_types HO_196001.out BK209.out (by decide)) (fun _ hk => hk.2) (.string ((rdOf ByteArray.empty l1 x7_2).extract (x12_5 : Int).toNat ((wrap64 (x12_5 + 1)) : Int).toNat))) (fun _ hk => hk.2) (.string (⟨#[]⟩ : ByteArray))) (fun _ hk => trivial)⟩, ⟨by (with_reducible repeat (first | refine blk_drewN ?_ _ | refine blk_drew ?_ | refine blk_alloc ?_ _)); refine blk_far ?_ NB194_209.out _; (with_reducible repeat (first | refine blk_drewN ?_ _ | refine blk_drew ?_ | refine blk_alloc ?_ _)); refine blk_far ?_ NB194_209.out _; (with_reducible repeat (first | refine blk_drewN ?_ _ | refine blk_drew ?_ | refine blk_alloc ?_ _)); exact BK194.out⟩, ⟨by (with_reducible repeat (first | refine blk_drewN ?_ _ | refine blk_drew ?_ | refine blk_alloc ?_ _)); refine blk_far ?_ NB195_209.out _; (with_reducible repeat (first | refine blk_drewN ?_ _ | refine blk_drew ?_ | refine blk_alloc ?_ _)); refine blk_far ?_ NB195_209.out _; (with_reducible repeat (first | refine blk_drewN ?_ _ | refine blk_drew ?_ | refine blk_alloc ?_ _)); exact BK195.out⟩, ⟨by (with_reducible repeat (first | refine blk_drewN ?_ _ | refine blk_drew ?_ | refine blk_alloc ?_ _)); refine blk_put (cs := #[.string ((rdOf ByteArray.empty l1 x7_2).extract (x12_5 : Int).toNat ((wrap64 (x12_5 + 1)) : Int).toNat), .string (⟨#[]⟩ : ByteArray)]) ?_ 1 _ rfl; (with_reducible repeat (first | refine blk_drewN ?_ _ | refine blk_drew ?_ | refine blk_alloc ?_ _)); refine blk_put (cs := #[.string (⟨#[]⟩ : ByteArray), .string (⟨#[]⟩ : ByteArray)]) ?_ 0 _ rfl; (with_reducible repeat (first | refine blk_drewN ?_ _ | refine blk_drew ?_ | refine blk_alloc ?_ _)); exact BK209.out⟩, ⟨bh_ HB⟩⟩
                       ·rw [if_neg c67] at H
                        have c67b0 : (t210 == 2) = false := beq_eq_false_iff_ne.mpr c67
                        have c67b1 : (t210 != 2) = true := bne_iff_ne.mpr c67
                        (first | rw [c67b0] | (simp only [i64_w, i32_w]; rw [c67b0]) | skip)
                        have H' := Aside0.mk H
                        clear H
                        go_wp2
                        go_meet
                        case rel => exact ⟨_, (false), (by first | rfl | (simp; done) | (simp [*]; done)), H', ⟨by have := HJ2.out; have := HK2.out; have := HJ26.out; have := HJ43.out; have := HK5.out; first | omega | exact Nat.le_refl _⟩, ⟨by (with_reducible repeat (first | apply Kd.R_alloc | apply Kd.R_drewN | apply Kd.R_drew)); exact Kd.R_mono (Kd.R_far (p := ⟨gb209, 1, none⟩) (Kd.R_far (p := ⟨gb209, 0, none⟩) (Kd.R_mono HO_196000.out (fun k_ hk => (⟨hk, hk.2⟩ : _ ∧ k_ ≠ gb209))) (fun _ hk => hk.2) (.string ((rdOf ByteArray.empty l1 x7_2).extract (x12_5 : Int).toNat ((wrap64 (x12_5 + 1)) : Int).toNat))) (fun _ hk => hk.2) (.string (⟨#[]⟩ : ByteArray))) (fun _ hk => hk.1.2)⟩, ⟨by (with_reducible repeat (first | apply Kd.R_alloc | apply Kd.R_drewN | apply Kd.R_drew)); exact Kd.R_mono (Kd.R_far (p := ⟨gb209, 1, none⟩) (Kd.R_far (p := ⟨gb209, 0, none⟩) (Kd.R_types HO_196001.out BK209.out (by decide)) (fun _ hk => hk.2) (.string ((rdOf ByteArray.empty l1 x7_2).extract (x12_5 : Int).toNat ((wrap64 (x12_5 + 1)) : Int).toNat))) (fun _ hk => hk.2) (.string (⟨#[]⟩ : ByteArray))) (fun _ hk => trivial)⟩, ⟨by (with_reducible repeat (first | refine blk_drewN ?_ _ | refine blk_drew ?_ | refine blk_alloc ?_ _)); refine blk_far ?_ NB194_209.out _; (with_reducible repeat (first | refine blk_drewN ?_ _ | refine blk_drew ?_ | refine blk_alloc ?_ _)); refine blk_far ?_ NB194_209.out _; (with_reducible repeat (first | refine blk_drewN ?_ _ | refine blk_drew ?_ | refine blk_alloc ?_ _)); exact BK194.out⟩, ⟨by (with_reducible repeat (first | refine blk_drewN ?_ _ | refine blk_drew ?_ | refine blk_alloc ?_ _)); refine blk_far ?_ NB195_209.out _; (with_reducible repeat (first | refine blk_drewN ?_ _ | refine blk_drew ?_ | refine blk_alloc ?_ _)); refine blk_far ?_ NB195_209.out _; (with_reducible repeat (first | refine blk_drewN ?_ _ | refine blk_drew ?_ | refine blk_alloc ?_ _)); exact BK195.out⟩, ⟨by (with_reducible repeat (first | refine blk_drewN ?_ _ | refine blk_drew ?_ | refine blk_alloc ?_ _)); refine blk_put (cs := #[.string ((rdOf ByteArray.empty l1 x7_2).extract (x12_5 : Int).toNat ((wrap64 (x12_5 + 1)) : Int).toNat), .string (⟨#[]⟩ : ByteArray)]) ?_ 1 _ rfl; (with_reducible repeat (first | refine blk_drewN ?_ _ | refine blk_drew ?_ | refine blk_alloc ?_ _)); refine blk_put (cs := #[.string (⟨#[]⟩ : ByteArray), .string (⟨#[]⟩ : ByteArray)]) ?_ 0 _ rfl; (with_reducible repeat (first | refine blk_drewN ?_ _ | refine blk_drew ?_ | refine blk_alloc ?_ _)); exact BK209.out⟩, ⟨bh_ HB⟩⟩
                      case rest =>
                       clear HC62
                       try clear c1
                       try clear p1
                       try clear q1
                       try clear hx1
                       try clear c2
                       try clear p2
                       try clear c3
                       try clear c4
                       try clear p4
                       try clear q4
                       try clear hx4
                       try clear qi4
                       try clear c5
                       try clear p5
                       try clear q5
                       try clear hx5
                       try clear c6
                       try clear c6b0
                       try clear c6b1
                       try clear p6
                       try clear c8
                       try clear c9
                       try clear c11
                       try clear c11b0
                       try clear c12
                       try clear c12b0
                       try clear c13
                       try clear c13b0
                       try clear c13b1
                       try clear c15
                       try clear c15b0
                       try clear c15b1
                       try clear c16
                       try clear c16b0
                       try clear c16b1
                       try clear c17
                       try clear p19
                       try clear q19
                       try clear hx19
                       try clear c23
                       try clear c28
                       try clear c28b0
                       try clear c28b1
                       try clear c29
                       try clear c29b0
                       try clear c29b1
                       try clear c30
                       try clear c30b0
                       try clear c30b1
                       try clear c31
                       try clear c32
                       try clear c32b0
                       try clear c32b1
                       try clear c35
                       try clear c36
                       try clear c37
                       try clear c42
                       try clear c45
                       try clear c45b0
                       try clear c45b1
                       try clear c46
                       try clear c46b0
                       try clear c46b1
                       try clear p47
                       try clear q47
                       try clear hx47
                       try clear qi47
                       try clear c48
                       try clear c49
                       try clear c49b0
                       try clear c50
                       try clear c50b0
                       try clear c50b1
                       try clear c51
                       try clear c51b0
                       try clear c51b1
                       try clear c52
                       try clear c52b0
                       try clear c52b1
                       try clear p53
                       try clear q53
                       try clear hx53
                       try clear c55
                       try clear c55b0
                       try clear c55b1
                       try clear c57
                       try clear c58
                       try clear c60
                       try clear c64
                       try clear p64
                       try clear c65
                       try clear c67
                       try clear c67b0
                       try clear c67b1
                       try clear hcz10_0 hcz10_1
                       try clear hcz24_0 hcz24_1
                       try clear hcz26_0 hcz26_1
                       try clear hcz38_0 hcz38_1
                       try clear hcz41_0 hcz41_1
                       try clear hcz43_0 hcz43_1
                       try clear hcz59_0 hcz59_1
                       try clear hcz61_0 hcz61_1
                       try clear hcz66_0 hcz66_1
                       try clear hfz10_0 hfz10_1
                       try clear hfz24_0 hfz24_1
                       try clear hfz26_0 hfz26_1
                       try clear hfz38_0 hfz38_1
                       try clear hfz41_0 hfz41_1
                       try clear hfz43_0 hfz43_1
                       try clear hfz59_0 hfz59_1
                       try clear hfz61_0 hfz61_1
                       try clear hfz66_0 hfz66_1
                       try clear hx197_0
                       try clear p1
                       try clear p19
                       try clear p197
                       try clear p2
                       try clear p4
                       try clear p47
                       try clear p53
                       try clear p6
                       try clear q1
                       try clear q19
                       try clear q197
                       try clear q4
                       try clear q47
                       try clear q53
                       obtain ⟨kq, x117_61, rfl, HA, HJ61, HO_196000, HO_196001, BK194, BK195, BK209, HB⟩ := hcut
                       cases kq with
                       | zero => exact absurd HA.out (by simp [salvorref6_Flags.j5])
                       | succ kj61 =>
                        have H := HA.out
                        clear HA
                        simp only [salvorref6_Flags.j5] at H
                        by_cases c68 : x117_61 = true
                        ·subst c68
                         have H1 : (if 0 ≤ (wrap64 (x12_5 + 1)) then (if (wrap64 (x12_5 + 1)) ≤ ((rdOf ByteArray.empty l1 x7_2).size : Int) then (if x196000_5.length < 4398046511104 then (salvorref6_Flags.l1 kj61 a0 l1 x7_5 (rdOf ByteArray.empty l1 x7_2) (wrap64 (((rdOf ByteArray.empty l1 x7_2).size : Int) + 1)) (x196000_5 ++ [(⟨((rdOf ByteArray.empty l1 x7_2).extract (x12_5 : Int).toNat ((wrap64 (x12_5 + 1)) : Int).toNat), (rdOf ByteArray.empty l1 x7_2).extract ((wrap64 (x12_5 + 1)) : Int).toNat (rdOf ByteArray.empty l1 x7_2).size⟩ : S31)]) x196001_2) else (none)) else (none)) else (none)) = some (r1, r2, r3) := by rw [if_pos rfl] at H; exact H
                         clear H
                         have H := H1
                         clear H1
                         obtain ⟨ji69, hji69⟩ : ∃ j_ : Int, (wrap64 (x12_5 + 1)) = j_ := ⟨_, rfl⟩
                         (try rw [hji69] at BK209)
                         replace H : (if 0 ≤ (ji69) then (if (ji69) ≤ ((rdOf ByteArray.empty l1 x7_2).size : Int) then (if x196000_5.length < 4398046511104 then (salvorref6_Flags.l1 kj61 a0 l1 x7_5 (rdOf ByteArray.empty l1 x7_2) (wrap64 (((rdOf ByteArray.empty l1 x7_2).size : Int) + 1)) (x196000_5 ++ [(⟨((rdOf ByteArray.empty l1 x7_2).extract (x12_5 : Int).toNat ((ji69) : Int).toNat), (rdOf ByteArray.empty l1 x7_2).extract ((ji69) : Int).toNat (rdOf ByteArray.empty l1 x7_2).size⟩ : S31)]) x196001_2) else (none)) else (none)) else (none)) = some (r1, r2, r3) := by first | (rw [hji69] at H; exact H) | (simp only [hji69] at H ⊢; exact H)
                         (try rw [hji69] at c51b0)
                         (try rw [hji69] at c51b1)
                         (try rw [hji69] at c51)
                         (try rw [hji69] at c52b0)
                         (try rw [hji69] at c52b1)
                         (try rw [hji69] at c52)
                         have hji69w : (IntKind.i64.wrap (x12_5 + 1)) = ji69 := (i64_w _).trans hji69
                         by_cases c70 : 0 ≤ (ji69)
                         ·rw [if_pos c70] at H
                          have c70b0 := eq_true c70
                          have c70b1 : decide (0 ≤ (ji69)) = true := decide_eq_true c70
                          clear c70
                          by_cases c71 : (ji69) ≤ ((rdOf ByteArray.empty l1 x7_2).size : Int)
                          ·rw [if_pos c71] at H
                           have c71b0 := eq_true c71
                           have c71b1 : decide ((ji69) ≤ ((rdOf ByteArray.empty l1 x7_2).size : Int)) = true := decide_eq_true c71
                           clear c71
                           by_cases c72 : x196000_5.length < 4398046511104
                           ·rw [if_pos c72] at H
                            have LMc72 := Aside0.mk c72
                            clear c72
                            obtain ⟨y211, hy211⟩ : ∃ y_ : List (S31), y_ = (x196000_5 ++ [(⟨((rdOf ByteArray.empty l1 x7_2).extract (x12_5 : Int).toNat ((ji69) : Int).toNat), (rdOf ByteArray.empty l1 x7_2).extract ((ji69) : Int).toNat (rdOf ByteArray.empty l1 x7_2).size⟩ : S31)]) := ⟨_, rfl⟩
                            replace H : (salvorref6_Flags.l1 kj61 a0 l1 x7_5 (rdOf ByteArray.empty l1 x7_2) (wrap64 (((rdOf ByteArray.empty l1 x7_2).size : Int) + 1)) y211 x196001_2) = some (r1, r2, r3) := by first | (rw [hy211]; with_reducible exact H) | (have H2_ := (Option.bind_some _ _).symm.trans H; rw [hy211]; with_reducible exact H2_) | (have H2_ := (Option.bind_some _ _).symm.trans H; with_reducible exact H2_) | with_reducible exact H | (rw [hy211]; exact H) | exact H
                            have Ny211 := Aside0.mk hy211
                            clear hy211
                            have H' := Aside0.mk H
                            clear H
                            have hnb73 := NB209_194.out
                            have hnc73 := NB194_209.out
                            have hnb74 := NB209_195.out
                            have hnc74 := NB195_209.out
                            obtain ⟨hcz75_0, hcz75_1, hfz75_0, hfz75_1⟩ := c2_ BK209
                            have hnb76 := NB195_194.out
                            have hnc76 := NB194_195.out
                            obtain ⟨hcz77_0, hcz77_1, hfz77_0, hfz77_1⟩ := c2_ BK195
                            go_wp2_with (first | ((with_reducible refine gate_builtin (b := .append) (xs := #[.tmp 140, .tmp 142]) rfl ?_); (try (refine gate_guard (by rfl) ?_; dsimp only)); at_builtin; refine Kd.R_append k31 (w0 := w) w.heap.size rfl (.tmp 140) (.tmp 142) 22 31 (.agg #[(.string ⟨#[]⟩), (.string ⟨#[]⟩)]) 32 rfl Tryd.underlying22 info31 rfl (by decide) (by omega) u196000 x196000_5 (⟨((rdOf ByteArray.empty l1 x7_2).extract (x12_5 : Int).toNat ((ji69) : Int).toNat), (rdOf ByteArray.empty l1 x7_2).extract ((ji69) : Int).toNat (rdOf ByteArray.empty l1 x7_2).size⟩ : S31) [.string ((rdOf ByteArray.empty l1 x7_2).extract (x12_5 : Int).toNat ((ji69) : Int).toNat), .string ((rdOf ByteArray.empty l1 x7_2).extract ((ji69) : Int).toNat (rdOf ByteArray.empty l1 x7_2).size)] (fun k_ => k_ ≠ gb209) (fun _ => False) rfl (by first | (go_simp; done) | (go_simp; rfl)) ?aP (fun _ hk => hk.elim) ?aF ?aO ?aB ?aS ?aL ?_; (case aP => exact k31_mkM _ _ _ (⟨((rdOf ByteArray.empty l1 x7_2).extract (x12_5 : Int).toNat ((ji69) : Int).toNat), (rdOf ByteArray.empty l1 x7_2).extract ((ji69) : Int).toNat (rdOf ByteArray.empty l1 x7_2).size⟩ : S31)); (case aB => exact (bh_ HB)); (case aF => exact (fun k_ hk => Kd.freshB (g := gb209) (o := .cells #[.string ((rdOf ByteArray.empty l1 x7_2).extract (x12_5 : Int).toNat ((ji69) : Int).toNat), .string ((rdOf ByteArray.empty l1 x7_2).extract ((ji69) : Int).toNat (rdOf ByteArray.empty l1 x7_2).size)] 31 (0, 0)) (bp_ BK209) k_ hk)); (case aO => exact (by (with_reducible repeat (first | apply Kd.R_alloc | apply Kd.R_drewN | apply Kd.R_drew)); exact Kd.R_mono (Kd.R_far (p := ⟨gb209, 1, none⟩) (Kd.R_mono HO_196000.out (fun k_ hk => (⟨hk, hk⟩ : _ ∧ k_ ≠ gb209))) (fun _ hk => hk.2) (.string ((rdOf ByteArray.empty l1 x7_2).extract ((ji69) : Int).toNat (rdOf ByteArray.empty l1 x7_2).size))) (fun _ hk => hk.1))); (case aS => exact (below_size (bh_ HB))); (case aL => have := LMc72.out; omega); intro v212 w78 ho hb hg hat; rw [← Ny211.out] at ho; have n0_ := Aside0.mk (Kd.R_over' (by (with_reducible repeat (first | apply Kd.R_alloc | apply Kd.R_drewN | apply Kd.R_drew)); exact (Kd.R_mono (Kd.R_far (p := ⟨gb209, 1, none⟩) (Kd.R_types HO_196001.out BK209.out (by decide)) (fun _ hk => hk.2) (.string ((rdOf ByteArray.empty l1 x7_2).extract ((ji69) : Int).toNat (rdOf ByteArray.empty l1 x7_2).size))) (fun _ h_ => h_.1))) (Kd.R_typed (by (with_reducible repeat (first | apply Kd.R_alloc | apply Kd.R_drewN | apply Kd.R_drew)); exact (Kd.R_mono (Kd.R_far (p := ⟨gb209, 1, none⟩) (Kd.R_mono HO_196000.out (fun k_ hk => (⟨hk, hk⟩ : _ ∧ k_ ≠ gb209))) (fun _ hk => hk.2) (.string ((rdOf ByteArray.empty l1 x7_2).extract ((ji69) : Int).toNat (rdOf ByteArray.empty l1 x7_2).size))) (fun _ h_ => h_.1)))) (by decide) hg); have n1_ := Aside0.mk (blk_grown (g := gb194) (o := .cells #[.slice none 0 0, .slice none 0 0] 25 (0, 0)) (bp_ BK194) hg (Kd.R_ne HO_196000.out BK194.out (by decide))); have n2_ := Aside0.mk (blk_grown (g := gb195) (o := .cells #[u196000, u196001] 25 (0, 0)) (bp_ BK195) hg (Kd.R_ne HO_196000.out BK195.out (by decide))); have n3_ := Aside0.mk (blk_grown (g := gb209) (o := .cells #[.string ((rdOf ByteArray.empty l1 x7_2).extract (x12_5 : Int).toNat ((ji69) : Int).toNat), .string ((rdOf ByteArray.empty l1 x7_2).extract ((ji69) : Int).toNat (rdOf ByteArray.empty l1 x7_2).size)] 31 (0, 0)) (bp_ BK209) hg (Kd.R_away HO_196000.out (fun _ hk => hk))); have n4_ := Aside0.mk (hb); have n5_ := Aside0.mk (ho); clear HO_196001; clear BK194; clear BK195; clear BK209; clear HB; clear HO_196000; have HO_196001 := n0_; have BK194 := n1_; have BK195 := n2_; have BK209 := n3_; have HB := n4_; have HO213 := n5_; clear n0_ n1_ n2_ n3_ n4_ n5_; clear ho hb hg hat; obtain ⟨Ao79, co79, eo79⟩ := Kd.R_slice HO213.out; subst eo79; obtain ⟨hcz80_0, hcz80_1, hfz80_0, hfz80_1⟩ := c2_ BK195))
                            go_roundg kj61
                            case measure => have := HJ2.out; have := HK2.out; have := HJ26.out; have := HJ43.out; have := HK5.out; have := HJ61.out; omega
                            case rel => exact ⟨(x7_5), (wrap64 (((rdOf ByteArray.empty l1 x7_2).size : Int) + 1)), (y211), (.slice Ao79 y211.length co79), (by first | rfl | (simp; done) | (simp [*]; done)), (by first | rfl | (simp; done) | (simp [*]; done)), H', ⟨by have := HJ2.out; have := HK2.out; have := HJ26.out; have := HJ43.out; have := HK5.out; have := HJ61.out; omega⟩, ⟨by (with_reducible repeat (first | apply Kd.R_alloc | apply Kd.R_drewN | apply Kd.R_drew)); exact Kd.R_mono (Kd.R_far (p := ⟨gb195, 0, none⟩) (Kd.R_types HO213.out BK195.out (by decide)) (fun _ hk => hk.2) (.slice Ao79 y211.length co79)) (fun _ hk => trivial)⟩, ⟨by (with_reducible repeat (first | apply Kd.R_alloc | apply Kd.R_drewN | apply Kd.R_drew)); exact Kd.R_mono (Kd.R_far (p := ⟨gb195, 0, none⟩) (Kd.R_types HO_196001.out BK195.out (by decide)) (fun _ hk => hk.2) (.slice Ao79 y211.length co79)) (fun _ hk => trivial)⟩, ⟨by (with_reducible repeat (first | refine blk_drewN ?_ _ | refine blk_drew ?_ | refine blk_alloc ?_ _)); refine blk_far ?_ NB194_195.out _; (with_reducible repeat (first | refine blk_drewN ?_ _ | refine blk_drew ?_ | refine blk_alloc ?_ _)); exact BK194.out⟩, ⟨by (with_reducible repeat (first | refine blk_drewN ?_ _ | refine blk_drew ?_ | refine blk_alloc ?_ _)); refine blk_put (cs := #[u196000, u196001]) ?_ 0 _ rfl; (with_reducible repeat (first | refine blk_drewN ?_ _ | refine blk_drew ?_ | refine blk_alloc ?_ _)); exact BK195.out⟩, ⟨bh_ HB⟩⟩
                           ·rw [if_neg c72] at H
                            exact absurd H (by simp)
                          ·rw [if_neg c71] at H
                           exact absurd H (by simp)
                         ·rw [if_neg c70] at H
                          exact absurd H (by simp)
                        ·replace c68 := Bool.eq_false_iff.mpr c68
                         subst c68
                         have H1 : (if t210 = 2 then (if (wrap64 (x7_5 + 1)) ≥ (l1.length : Int) then (some (([] : List (S31)), ([] : List ByteArray), false)) else (if 0 ≤ (wrap64 (x7_5 + 1)) then (if (wrap64 (x7_5 + 1)) < (l1.length : Int) then (if x196000_5.length < 4398046511104 then (salvorref6_Flags.l1 kj61 a0 l1 (wrap64 (x7_5 + 1)) (rdOf ByteArray.empty l1 x7_2) (wrap64 (x12_5 + 1)) (x196000_5 ++ [(⟨((rdOf ByteArray.empty l1 x7_2).extract (x12_5 : Int).toNat ((wrap64 (x12_5 + 1)) : Int).toNat), rdOf ByteArray.empty l1 (wrap64 (x7_5 + 1))⟩ : S31)]) x196001_2) else (none)) else (none)) else (none))) else (if x196000_5.length < 4398046511104 then (salvorref6_Flags.l1 kj61 a0 l1 x7_5 (rdOf ByteArray.empty l1 x7_2) (wrap64 (x12_5 + 1)) (x196000_5 ++ [(⟨((rdOf ByteArray.empty l1 x7_2).extract (x12_5 : Int).toNat ((wrap64 (x12_5 + 1)) : Int).toNat), (⟨#[]⟩ : ByteArray)⟩ : S31)]) x196001_2) else (none))) = some (r1, r2, r3) := by rw [if_neg (show ¬ (false = true) by decide)] at H; exact H
                         clear H
                         have H := H1
                         clear H1
                         by_cases c81 : t210 = 2
                         ·rw [if_pos c81] at H
                          have c81b0 : (t210 == 2) = true := beq_iff_eq.mpr c81
                          have c81b1 : (t210 != 2) = false := bne_eq_false_iff_eq.mpr c81
                          clear c81
                          by_cases c82 : (wrap64 (x7_5 + 1)) ≥ (l1.length : Int)
                          ·rw [if_pos c82] at H
                           have c82b0 : decide ((l1.length : Int) ≤ (wrap64 (x7_5 + 1))) = true := decide_eq_true c82
                           clear c82
                           simp only [Option.some.injEq, Prod.mk.injEq] at H
                           obtain ⟨rfl, rfl, rfl⟩ := H
                           have hnb83 := NB194_195.out
                           have hnc83 := NB195_194.out
                           have hnb84 := NB194_209.out
                           have hnc84 := NB209_194.out
                           obtain ⟨hcz85_0, hcz85_1, hfz85_0, hfz85_1⟩ := c2_ BK194
                           go_wp2
                           refine bodyPost_ret (results_ct rfl _ _ gb194 25 #[.slice none 0 0, .slice none 0 0] (0, 0) _ rfl (bp_ BK194) Tryd.underlying25 rfl (by kernel_rfl)) rfl ?_
                           exact ⟨_, _, by first | rfl | (simp [errW_none, errW_some] <;> rfl) | (simp [*, errW_none, errW_some] <;> rfl), by first | exact Kd.R_nil _ _ _ _ _ | exact Kd.N_nil _ _ _ _ _ | exact Kd.V_nil _ _ _ _ _ | exact Kd.Q_nil _ _ _ _ _ | exact Kd.S_nil _ _ _ _ _, by first | exact Kd.R_nil _ _ _ _ _ | exact Kd.N_nil _ _ _ _ _ | exact Kd.V_nil _ _ _ _ _ | exact Kd.Q_nil _ _ _ _ _ | exact Kd.S_nil _ _ _ _ _, bh_ HB⟩
                          ·rw [if_neg c82] at H
                           have c82b0 : decide ((l1.length : Int) ≤ (wrap64 (x7_5 + 1))) = false := decide_eq_false c82
                           clear c82
                           obtain ⟨ji86, hji86⟩ : ∃ j_ : Int, (wrap64 (x7_5 + 1)) = j_ := ⟨_, rfl⟩
                           (try rw [hji86] at BK209)
                           replace H : (if 0 ≤ (ji86) then (if (ji86) < (l1.length : Int) then (if x196000_5.length < 4398046511104 then (salvorref6_Flags.l1 kj61 a0 l1 ji86 (rdOf ByteArray.empty l1 x7_2) (wrap64 (x12_5 + 1)) (x196000_5 ++ [(⟨((rdOf ByteArray.empty l1 x7_2).extract (x12_5 : Int).toNat ((wrap64 (x12_5 + 1)) : Int).toNat), rdOf ByteArray.empty l1 (ji86)⟩ : S31)]) x196001_2) else (none)) else (none)) else (none)) = some (r1, r2, r3) := by first | (rw [hji86] at H; exact H) | (simp only [hji86] at H ⊢; exact H)
                           (try rw [hji86] at c82b0)
                           have hji86w : (IntKind.i64.wrap (x7_5 + 1)) = ji86 := (i64_w _).trans hji86
                           by_cases c87 : 0 ≤ (ji86)
                           ·rw [if_pos c87] at H
                            have c87b0 : decide (0 ≤ (ji86)) = true := decide_eq_true c87
                            clear c87
                            by_cases c88 : (ji86) < (l1.length : Int)
                            ·rw [if_pos c88] at H
                             have c88b0 : decide ((ji86) < (l1.length : Int)) = true := decide_eq_true c88
                             clear c88
                             by_cases c89 : x196000_5.length < 4398046511104
                             ·rw [if_pos c89] at H
                              have LMc89 := Aside0.mk c89
                              clear c89
                              obtain ⟨y215, hy215⟩ : ∃ y_ : List (S31), y_ = (x196000_5 ++ [(⟨((rdOf ByteArray.empty l1 x7_2).extract (x12_5 : Int).toNat ((wrap64 (x12_5 + 1)) : Int).toNat), rdOf ByteArray.empty l1 (ji86)⟩ : S31)]) := ⟨_, rfl⟩
                              replace H : (salvorref6_Flags.l1 kj61 a0 l1 ji86 (rdOf ByteArray.empty l1 x7_2) (wrap64 (x12_5 + 1)) y215 x196001_2) = some (r1, r2, r3) := by first | (rw [hy215]; with_reducible exact H) | (have H2_ := (Option.bind_some _ _).symm.trans H; rw [hy215]; with_reducible exact H2_) | (have H2_ := (Option.bind_some _ _).symm.trans H; with_reducible exact H2_) | with_reducible exact H | (rw [hy215]; exact H) | exact H
                              have Ny215 := Aside0.mk hy215
                              clear hy215
                              have H' := Aside0.mk H
                              clear H
                              have p214 : 0 ≤ ((ji86) : Int) := of_decide_eq_true (by first | (with_reducible assumption) | assumption)
                              have q214 : (ji86) < (l1.length : Int) := of_decide_eq_true (by first | (with_reducible assumption) | assumption)
                              obtain ⟨ad214, e214, hx214_0⟩ := Kd.at_string HR1.out (ji86) p214 q214
                              obtain rfl : ad197 = ad214 := (by injection e214)
                              replace hx214_0 := (HB.out.cell (World.block_lt_of_cell? w _ hx214_0)).trans hx214_0
                              replace p214 := eq_true p214
                              replace q214 := eq_true q214
                              have hnb90 := NB209_194.out
                              have hnc90 := NB194_209.out
                              have hnb91 := NB209_195.out
                              have hnc91 := NB195_209.out
                              obtain ⟨hcz92_0, hcz92_1, hfz92_0, hfz92_1⟩ := c2_ BK209
                              have hnb93 := NB195_194.out
                              have hnc93 := NB194_195.out
                              obtain ⟨hcz94_0, hcz94_1, hfz94_0, hfz94_1⟩ := c2_ BK195
                              go_wp2_with (first | ((with_reducible refine gate_builtin (b := .append) (xs := #[.tmp 140, .tmp 142]) rfl ?_); (try (refine gate_guard (by rfl) ?_; dsimp only)); at_builtin; refine Kd.R_append k31 (w0 := w) w.heap.size rfl (.tmp 140) (.tmp 142) 22 31 (.agg #[(.string ⟨#[]⟩), (.string ⟨#[]⟩)]) 32 rfl Tryd.underlying22 info31 rfl (by decide) (by omega) u196000 x196000_5 (⟨((rdOf ByteArray.empty l1 x7_2).extract (x12_5 : Int).toNat ((wrap64 (x12_5 + 1)) : Int).toNat), rdOf ByteArray.empty l1 (ji86)⟩ : S31) [.string ((rdOf ByteArray.empty l1 x7_2).extract (x12_5 : Int).toNat ((wrap64 (x12_5 + 1)) : Int).toNat), .string (rdOf ByteArray.empty l1 (ji86))] (fun k_ => k_ ≠ gb209) (fun _ => False) rfl (by first | (go_simp; done) | (go_simp; rfl)) ?aP (fun _ hk => hk.elim) ?aF ?aO ?aB ?aS ?aL ?_; (case aP => exact k31_mkM _ _ _ (⟨((rdOf ByteArray.empty l1 x7_2).extract (x12_5 : Int).toNat ((wrap64 (x12_5 + 1)) : Int).toNat), rdOf ByteArray.empty l1 (ji86)⟩ : S31)); (case aB => exact (bh_ HB)); (case aF => exact (fun k_ hk => Kd.freshB (g := gb209) (o := .cells #[.string ((rdOf ByteArray.empty l1 x7_2).extract (x12_5 : Int).toNat ((wrap64 (x12_5 + 1)) : Int).toNat), .string (rdOf ByteArray.empty l1 (ji86))] 31 (0, 0)) (bp_ BK209) k_ hk)); (case aO => exact (by (with_reducible repeat (first | apply Kd.R_alloc | apply Kd.R_drewN | apply Kd.R_drew)); exact Kd.R_mono (Kd.R_far (p := ⟨gb209, 1, none⟩) (Kd.R_mono HO_196000.out (fun k_ hk => (⟨hk, hk⟩ : _ ∧ k_ ≠ gb209))) (fun _ hk => hk.2) (.string (rdOf ByteArray.empty l1 (ji86)))) (fun _ hk => hk.1))); (case aS => exact (below_size (bh_ HB))); (case aL => have := LMc89.out; omega); intro v216 w95 ho hb hg hat; rw [← Ny215.out] at ho; have n0_ := Aside0.mk (Kd.R_over' (by (with_reducible repeat (first | apply Kd.R_alloc | apply Kd.R_drewN | apply Kd.R_drew)); exact (Kd.R_mono (Kd.R_far (p := ⟨gb209, 1, none⟩) (Kd.R_types HO_196001.out BK209.out (by decide)) (fun _ hk => hk.2) (.string (rdOf ByteArray.empty l1 (ji86)))) (fun _ h_ => h_.1))) (Kd.R_typed (by (with_reducible repeat (first | apply Kd.R_alloc | apply Kd.R_drewN | apply Kd.R_drew)); exact (Kd.R_mono (Kd.R_far (p := ⟨gb209, 1, none⟩) (Kd.R_mono HO_196000.out (fun k_ hk => (⟨hk, hk⟩ : _ ∧ k_ ≠ gb209))) (fun _ hk => hk.2) (.string (rdOf ByteArray.empty l1 (ji86)))) (fun _ h_ => h_.1)))) (by decide) hg); have n1_ := Aside0.mk (blk_grown (g := gb194) (o := .cells #[.slice none 0 0, .slice none 0 0] 25 (0, 0)) (bp_ BK194) hg (Kd.R_ne HO_196000.out BK194.out (by decide))); have n2_ := Aside0.mk (blk_grown (g := gb195) (o := .cells #[u196000, u196001] 25 (0, 0)) (bp_ BK195) hg (Kd.R_ne HO_196000.out BK195.out (by decide))); have n3_ := Aside0.mk (blk_grown (g := gb209) (o := .cells #[.string ((rdOf ByteArray.empty l1 x7_2).extract (x12_5 : Int).toNat ((wrap64 (x12_5 + 1)) : Int).toNat), .string (rdOf ByteArray.empty l1 (ji86))] 31 (0, 0)) (bp_ BK209) hg (Kd.R_away HO_196000.out (fun _ hk => hk))); have n4_ := Aside0.mk (hb); have n5_ := Aside0.mk (ho); clear HO_196001; clear BK194; clear BK195; clear BK209; clear HB; clear HO_196000; have HO_196001 := n0_; have BK194 := n1_; have BK195 := n2_; have BK209 := n3_; have HB := n4_; have HO217 := n5_; clear n0_ n1_ n2_ n3_ n4_ n5_; clear ho hb hg hat; obtain ⟨Ao96, co96, eo96⟩ := Kd.R_slice HO217.out; subst eo96; obtain ⟨hcz97_0, hcz97_1, hfz97_0, hfz97_1⟩ := c2_ BK195))
                              go_roundg kj61
                              case measure => have := HJ2.out; have := HK2.out; have := HJ26.out; have := HJ43.out; have := HK5.out; have := HJ61.out; omega
                              case rel => exact ⟨(ji86), (wrap64 (x12_5 + 1)), (y215), (.slice Ao96 y215.length co96), (by first | rfl | (simp; done) | (simp only [← hji86] <;> (first | rfl | simp)) | (simp [*]; done)), (by first | rfl | (simp; done) | (simp [*]; done)), H', ⟨by have := HJ2.out; have := HK2.out; have := HJ26.out; have := HJ43.out; have := HK5.out; have := HJ61.out; omega⟩, ⟨by (with_reducible repeat (first | apply Kd.R_alloc | apply Kd.R_drewN | apply Kd.R_drew)); exact Kd.R_mono (Kd.R_far (p := ⟨gb195, 0, none⟩) (Kd.R_types HO217.out BK195.out (by decide)) (fun _ hk => hk.2) (.slice Ao96 y215.length co96)) (fun _ hk => trivial)⟩, ⟨by (with_reducible repeat (first | apply Kd.R_alloc | apply Kd.R_drewN | apply Kd.R_drew)); exact Kd.R_mono (Kd.R_far (p := ⟨gb195, 0, none⟩) (Kd.R_types HO_196001.out BK195.out (by decide)) (fun _ hk => hk.2) (.slice Ao96 y215.length co96)) (fun _ hk => trivial)⟩, ⟨by (with_reducible repeat (first | refine blk_drewN ?_ _ | refine blk_drew ?_ | refine blk_alloc ?_ _)); refine blk_far ?_ NB194_195.out _; (with_reducible repeat (first | refine blk_drewN ?_ _ | refine blk_drew ?_ | refine blk_alloc ?_ _)); exact BK194.out⟩, ⟨by (with_reducible repeat (first | refine blk_drewN ?_ _ | refine blk_drew ?_ | refine blk_alloc ?_ _)); refine blk_put (cs := #[u196000, u196001]) ?_ 0 _ rfl; (with_reducible repeat (first | refine blk_drewN ?_ _ | refine blk_drew ?_ | refine blk_alloc ?_ _)); exact BK195.out⟩, ⟨bh_ HB⟩⟩
                             ·rw [if_neg c89] at H
                              exact absurd H (by simp)
                            ·rw [if_neg c88] at H
                             exact absurd H (by simp)
                           ·rw [if_neg c87] at H
                            exact absurd H (by simp)
                         ·rw [if_neg c81] at H
                          have c81b0 : (t210 == 2) = false := beq_eq_false_iff_ne.mpr c81
                          have c81b1 : (t210 != 2) = true := bne_iff_ne.mpr c81
                          by_cases c98 : x196000_5.length < 4398046511104
                          ·rw [if_pos c98] at H
                           have LMc98 := Aside0.mk c98
                           clear c98
                           obtain ⟨y218, hy218⟩ : ∃ y_ : List (S31), y_ = (x196000_5 ++ [(⟨((rdOf ByteArray.empty l1 x7_2).extract (x12_5 : Int).toNat ((wrap64 (x12_5 + 1)) : Int).toNat), (⟨#[]⟩ : ByteArray)⟩ : S31)]) := ⟨_, rfl⟩
                           replace H : (salvorref6_Flags.l1 kj61 a0 l1 x7_5 (rdOf ByteArray.empty l1 x7_2) (wrap64 (x12_5 + 1)) y218 x196001_2) = some (r1, r2, r3) := by first | (rw [hy218]; with_reducible exact H) | (have H2_ := (Option.bind_some _ _).symm.trans H; rw [hy218]; with_reducible exact H2_) | (have H2_ := (Option.bind_some _ _).symm.trans H; with_reducible exact H2_) | with_reducible exact H | (rw [hy218]; exact H) | exact H
                           have Ny218 := Aside0.mk hy218
                           clear hy218
                           have H' := Aside0.mk H
                           clear H
                           have hnb99 := NB195_194.out
                           have hnc99 := NB194_195.out
                           have hnb100 := NB195_209.out
                           have hnc100 := NB209_195.out
                           obtain ⟨hcz101_0, hcz101_1, hfz101_0, hfz101_1⟩ := c2_ BK195
                           have hnb102 := NB209_194.out
                           have hnc102 := NB194_209.out
                           obtain ⟨hcz103_0, hcz103_1, hfz103_0, hfz103_1⟩ := c2_ BK209
                           go_wp2_with (first | ((with_reducible refine gate_builtin (b := .append) (xs := #[.tmp 140, .tmp 142]) rfl ?_); (try (refine gate_guard (by rfl) ?_; dsimp only)); at_builtin; refine Kd.R_append k31 (w0 := w) w.heap.size rfl (.tmp 140) (.tmp 142) 22 31 (.agg #[(.string ⟨#[]⟩), (.string ⟨#[]⟩)]) 32 rfl Tryd.underlying22 info31 rfl (by decide) (by omega) u196000 x196000_5 (⟨((rdOf ByteArray.empty l1 x7_2).extract (x12_5 : Int).toNat ((wrap64 (x12_5 + 1)) : Int).toNat), (⟨#[]⟩ : ByteArray)⟩ : S31) [.string ((rdOf ByteArray.empty l1 x7_2).extract (x12_5 : Int).toNat ((wrap64 (x12_5 + 1)) : Int).toNat), .string (⟨#[]⟩ : ByteArray)] (fun k_ => k_ ≠ gb209) (fun _ => False) rfl rfl ?aP (fun _ hk => hk.elim) ?aF ?aO ?aB ?aS ?aL ?_; (case aP => exact k31_mkM _ _ _ (⟨((rdOf ByteArray.empty l1 x7_2).extract (x12_5 : Int).toNat ((wrap64 (x12_5 + 1)) : Int).toNat), (⟨#[]⟩ : ByteArray)⟩ : S31)); (case aB => exact (bh_ HB)); (case aF => exact (fun k_ hk => Kd.freshB (g := gb209) (o := .cells #[.string ((rdOf ByteArray.empty l1 x7_2).extract (x12_5 : Int).toNat ((wrap64 (x12_5 + 1)) : Int).toNat), .string (⟨#[]⟩ : ByteArray)] 31 (0, 0)) (bq_ BK209) k_ hk)); (case aO => exact (by (with_reducible repeat (first | apply Kd.R_alloc | apply Kd.R_drewN | apply Kd.R_drew)); exact HO_196000.out)); (case aS => exact (below_size (bh_ HB))); (case aL => have := LMc98.out; omega); intro v219 w104 ho hb hg hat; rw [← Ny218.out] at ho; have n0_ := Aside0.mk (Kd.R_over' (by (with_reducible repeat (first | apply Kd.R_alloc | apply Kd.R_drewN | apply Kd.R_drew)); exact HO_196001.out) (Kd.R_typed (by (with_reducible repeat (first | apply Kd.R_alloc | apply Kd.R_drewN | apply Kd.R_drew)); exact HO_196000.out)) (by decide) hg); have n1_ := Aside0.mk (blk_grown (g := gb194) (o := .cells #[.slice none 0 0, .slice none 0 0] 25 (0, 0)) (bq_ BK194) hg (Kd.R_ne HO_196000.out BK194.out (by decide))); have n2_ := Aside0.mk (blk_grown (g := gb195) (o := .cells #[u196000, u196001] 25 (0, 0)) (bq_ BK195) hg (Kd.R_ne HO_196000.out BK195.out (by decide))); have n3_ := Aside0.mk (blk_grown (g := gb209) (o := .cells #[.string ((rdOf ByteArray.empty l1 x7_2).extract (x12_5 : Int).toNat ((wrap64 (x12_5 + 1)) : Int).toNat), .string (⟨#[]⟩ : ByteArray)] 31 (0, 0)) (bq_ BK209) hg (Kd.R_away HO_196000.out (fun _ hk => hk))); have n4_ := Aside0.mk (hb); have n5_ := Aside0.mk (ho); clear HO_196001; clear BK194; clear BK195; clear BK209; clear HB; clear HO_196000; have HO_196001 := n0_; have BK194 := n1_; have BK195 := n2_; have BK209 := n3_; have HB := n4_; have HO220 := n5_; clear n0_ n1_ n2_ n3_ n4_ n5_; clear ho hb hg hat; obtain ⟨Ao105, co105, eo105⟩ := Kd.R_slice HO220.out; subst eo105; obtain ⟨hcz106_0, hcz106_1, hfz106_0, hfz106_1⟩ := c2_ BK195))
                           go_roundg kj61
                           case measure => have := HJ2.out; have := HK2.out; have := HJ26.out; have := HJ43.out; have := HK5.out; have := HJ61.out; omega
                           case rel => exact ⟨(x7_5), (wrap64 (x12_5 + 1)), (y218), (.slice Ao105 y218.length co105), (by first | rfl | (simp; done) | (simp [*]; done)), (by first | rfl | (simp; done) | (simp [*]; done)), H', ⟨by have := HJ2.out; have := HK2.out; have := HJ26.out; have := HJ43.out; have := HK5.out; have := HJ61.out; omega⟩, ⟨by (with_reducible repeat (first | apply Kd.R_alloc | apply Kd.R_drewN | apply Kd.R_drew)); exact Kd.R_mono (Kd.R_far (p := ⟨gb195, 0, none⟩) (Kd.R_types HO220.out BK195.out (by decide)) (fun _ hk => hk.2) (.slice Ao105 y218.length co105)) (fun _ hk => trivial)⟩, ⟨by (with_reducible repeat (first | apply Kd.R_alloc | apply Kd.R_drewN | apply Kd.R_drew)); exact Kd.R_mono (Kd.R_far (p := ⟨gb195, 0, none⟩) (Kd.R_types HO_196001.out BK195.out (by decide)) (fun _ hk => hk.2) (.slice Ao105 y218.length co105)) (fun _ hk => trivial)⟩, ⟨by (with_reducible repeat (first | refine blk_drewN ?_ _ | refine blk_drew ?_ | refine blk_alloc ?_ _)); refine blk_far ?_ NB194_195.out _; (with_reducible repeat (first | refine blk_drewN ?_ _ | refine blk_drew ?_ | refine blk_alloc ?_ _)); exact BK194.out⟩, ⟨by (with_reducible repeat (first | refine blk_drewN ?_ _ | refine blk_drew ?_ | refine blk_alloc ?_ _)); refine blk_put (cs := #[u196000, u196001]) ?_ 0 _ rfl; (with_reducible repeat (first | refine blk_drewN ?_ _ | refine blk_drew ?_ | refine blk_alloc ?_ _)); exact BK195.out⟩, ⟨bh_ HB⟩⟩
                          ·rw [if_neg c98] at H
                           exact absurd H (by simp)
                    ·rw [if_neg c52] at H
                     exact absurd H (by simp)
                   ·rw [if_neg c51] at H
                    exact absurd H (by simp)
                  ·rw [if_neg c50] at H
                   exact absurd H (by simp)
                 ·rw [if_neg c49] at H
                  have c49b0 : decide (x12_5 < ((rdOf ByteArray.empty l1 x7_2).size : Int)) = false := decide_eq_false c49
                  clear c49
                  have H' := Aside0.mk H
                  clear H
                  go_wp2
                  go_roundg k5
                  case measure => have := HJ2.out; have := HK2.out; have := HJ26.out; have := HJ43.out; have := HK5.out; omega
                  case rel => exact ⟨(wrap64 (x7_5 + 1)), (x196000_5), (x196001_2), (u196000), (u196001), (by first | rfl | (simp; done) | (simp [*]; done)), H', ⟨by have := HJ2.out; have := HK2.out; have := HJ26.out; have := HJ43.out; have := HK5.out; omega⟩, ⟨by (with_reducible repeat (first | apply Kd.R_alloc | apply Kd.R_drewN | apply Kd.R_drew)); exact HO_196000.out⟩, ⟨by (with_reducible repeat (first | apply Kd.R_alloc | apply Kd.R_drewN | apply Kd.R_drew)); exact HO_196001.out⟩, ⟨bq_ BK194⟩, ⟨bq_ BK195⟩, ⟨bh_ HB⟩⟩
              ·replace c48 := Bool.eq_false_iff.mpr c48
               subst c48
               have H1 : (if x196001_2.length < 8796093022208 then (salvorref6_Flags.l0 kj43 a0 l1 (wrap64 (x7_2 + 1)) x196000_2 (x196001_2 ++ [(rdOf ByteArray.empty l1 x7_2)])) else (none)) = some (r1, r2, r3) := by rw [if_neg (show ¬ (false = true) by decide)] at H; exact H
               clear H
               have H := H1
               clear H1
               by_cases c107 : x196001_2.length < 8796093022208
               ·rw [if_pos c107] at H
                have LMc107 := Aside0.mk c107
                clear c107
                obtain ⟨y221, hy221⟩ : ∃ y_ : List ByteArray, y_ = (x196001_2 ++ [(rdOf ByteArray.empty l1 x7_2)]) := ⟨_, rfl⟩
                replace H : (salvorref6_Flags.l0 kj43 a0 l1 (wrap64 (x7_2 + 1)) x196000_2 y221) = some (r1, r2, r3) := by first | (rw [hy221]; with_reducible exact H) | (have H2_ := (Option.bind_some _ _).symm.trans H; rw [hy221]; with_reducible exact H2_) | (have H2_ := (Option.bind_some _ _).symm.trans H; with_reducible exact H2_) | with_reducible exact H | (rw [hy221]; exact H) | exact H
                have Ny221 := Aside0.mk hy221
                clear hy221
                have H' := Aside0.mk H
                clear H
                have hnb108 := NB195_194.out
                have hnc108 := NB194_195.out
                obtain ⟨hcz109_0, hcz109_1, hfz109_0, hfz109_1⟩ := c2_ BK195
                go_wp2_with (first | ((with_reducible refine gate_builtin (b := .append) (xs := #[.tmp 35, .tmp 37]) rfl ?_); (try (refine gate_guard (by rfl) ?_; dsimp only)); at_builtin; refine Kd.R_append Kd.string (w0 := w) w.heap.size rfl (.tmp 35) (.tmp 37) 23 9 (.string ⟨#[]⟩) 16 rfl Tryd.underlying23 info9 rfl (by decide) (by omega) u196001 x196001_2 (rdOf ByteArray.empty l1 x7_2) [.string (rdOf ByteArray.empty l1 x7_2)] (fun _ => True) (fun _ => False) rfl rfl ?aP (fun _ hk => hk.elim) ?aF ?aO ?aB ?aS ?aL ?_; (case aP => exact rfl); (case aB => exact (bh_ HB)); (case aF => exact (fun _ _ => trivial)); (case aO => exact (by (with_reducible repeat (first | apply Kd.R_alloc | apply Kd.R_drewN | apply Kd.R_drew)); exact HO_196001.out)); (case aS => exact (below_size (bh_ HB))); (case aL => have := LMc107.out; omega); intro v222 w110 ho hb hg hat; rw [← Ny221.out] at ho; have n0_ := Aside0.mk (Kd.R_over' (by (with_reducible repeat (first | apply Kd.R_alloc | apply Kd.R_drewN | apply Kd.R_drew)); exact HO_196000.out) (Kd.R_typed (by (with_reducible repeat (first | apply Kd.R_alloc | apply Kd.R_drewN | apply Kd.R_drew)); exact HO_196001.out)) (by decide) hg); have n1_ := Aside0.mk (blk_grown (g := gb194) (o := .cells #[.slice none 0 0, .slice none 0 0] 25 (0, 0)) (bq_ BK194) hg (Kd.R_ne HO_196001.out BK194.out (by decide))); have n2_ := Aside0.mk (blk_grown (g := gb195) (o := .cells #[u196000, u196001] 25 (0, 0)) (bq_ BK195) hg (Kd.R_ne HO_196001.out BK195.out (by decide))); have n3_ := Aside0.mk (hb); have n4_ := Aside0.mk (ho); clear HO_196000; clear BK194; clear BK195; clear HB; clear HO_196001; have HO_196000 := n0_; have BK194 := n1_; have BK195 := n2_; have HB := n3_; have HO223 := n4_; clear n0_ n1_ n2_ n3_ n4_; clear ho hb hg hat; obtain ⟨Ao111, co111, eo111⟩ := Kd.R_slice HO223.out; subst eo111; obtain ⟨hcz112_0, hcz112_1, hfz112_0, hfz112_1⟩ := c2_ BK195))
                go_roundg kj43
                case measure => have := HJ2.out; have := HK2.out; have := HJ26.out; have := HJ43.out; omega
                case rel => exact ⟨(wrap64 (x7_2 + 1)), (x196000_2), (y221), (u196000), (.slice Ao111 y221.length co111), (by first | rfl | (simp; done) | (simp [*]; done)), H', ⟨by have := HJ2.out; have := HK2.out; have := HJ26.out; have := HJ43.out; omega⟩, ⟨by (with_reducible repeat (first | apply Kd.R_alloc | apply Kd.R_drewN | apply Kd.R_drew)); exact Kd.R_mono (Kd.R_far (p := ⟨gb195, 1, none⟩) (Kd.R_types HO_196000.out BK195.out (by decide)) (fun _ hk => hk.2) (.slice Ao111 y221.length co111)) (fun _ hk => trivial)⟩, ⟨by (with_reducible repeat (first | apply Kd.R_alloc | apply Kd.R_drewN | apply Kd.R_drew)); exact Kd.R_mono (Kd.R_far (p := ⟨gb195, 1, none⟩) (Kd.R_types HO223.out BK195.out (by decide)) (fun _ hk => hk.2) (.slice Ao111 y221.length co111)) (fun _ hk => trivial)⟩, ⟨by (with_reducible repeat (first | refine blk_drewN ?_ _ | refine blk_drew ?_ | refine blk_alloc ?_ _)); refine blk_far ?_ NB194_195.out _; (with_reducible repeat (first | refine blk_drewN ?_ _ | refine blk_drew ?_ | refine blk_alloc ?_ _)); exact BK194.out⟩, ⟨by (with_reducible repeat (first | refine blk_drewN ?_ _ | refine blk_drew ?_ | refine blk_alloc ?_ _)); refine blk_put (cs := #[u196000, u196001]) ?_ 1 _ rfl; (with_reducible repeat (first | refine blk_drewN ?_ _ | refine blk_drew ?_ | refine blk_alloc ?_ _)); exact BK195.out⟩, ⟨bh_ HB⟩⟩
               ·rw [if_neg c107] at H
                exact absurd H (by simp)
       ·rw [if_neg c12] at H
        exact absurd H (by simp)
      ·rw [if_neg c11] at H
       have c11b0 : decide (x7_2 < (l1.length : Int)) = false := decide_eq_false c11
       clear c11
       simp only [Option.some.injEq, Prod.mk.injEq] at H
       obtain ⟨rfl, rfl, rfl⟩ := H
       have hnb113 := NB195_194.out
       have hnc113 := NB194_195.out
       obtain ⟨hcz114_0, hcz114_1, hfz114_0, hfz114_1⟩ := c2_ BK195
       obtain ⟨Ao115, co115, eo115⟩ := Kd.R_slice HO_196000.out
       subst eo115
       obtain ⟨hcz116_0, hcz116_1, hfz116_0, hfz116_1⟩ := c2_ BK194
       obtain ⟨Ao117, co117, eo117⟩ := Kd.R_slice HO_196001.out
       subst eo117
       go_wp2
       refine bodyPost_ret (results_ct rfl _ _ gb194 25 #[.slice Ao115 x196000_2.length co115, .slice Ao117 x196001_2.length co117] (0, 0) _ rfl (bp_ BK194) Tryd.underlying25 rfl (by kernel_rfl)) rfl ?_
       exact ⟨_, _, by first | rfl | (simp [errW_none, errW_some] <;> rfl) | (simp [*, errW_none, errW_some] <;> rfl), by (with_reducible repeat (first | apply Kd.R_alloc | apply Kd.R_drewN | apply Kd.R_drew)); exact Kd.R_mono (Kd.R_far (p := ⟨gb194, 1, none⟩) (Kd.R_far (p := ⟨gb194, 0, none⟩) (Kd.R_types HO_196000.out BK194.out (by decide)) (fun _ hk => hk.2) (.slice Ao115 x196000_2.length co115)) (fun _ hk => hk.2) (.slice Ao117 x196001_2.length co117)) (fun _ hk => trivial), by (with_reducible repeat (first | apply Kd.R_alloc | apply Kd.R_drewN | apply Kd.R_drew)); exact Kd.R_mono (Kd.R_far (p := ⟨gb194, 1, none⟩) (Kd.R_far (p := ⟨gb194, 0, none⟩) (Kd.R_types HO_196001.out BK194.out (by decide)) (fun _ hk => hk.2) (.slice Ao115 x196000_2.length co115)) (fun _ hk => hk.2) (.slice Ao117 x196001_2.length co117)) (fun _ hk => trivial), bh_ HB⟩

end Go.Proofs.YtlginoicaeonhaaDoor.P
