/- Laid by a program of this session's own (wip/wprint.py, over the kit's print.py): functions of the given program as plain Lean functions, and that the program's calls come to their answers. -/
import Derived.Test.YtbmhfnncagncmaaDoorPx0
import Derived.Test.YtbmhfnncagncmaaDoorPx22
import Derived.Test.YtbmhfnncagncmaaDoorPx23
namespace Go.Proofs.YtbmhfnncagncmaaDoor.P
open Go.RowKit Go.Proofs.YtbmhfnncagncmaaDoorW.PrintWords Go.Proofs.YtbmhfnncagncmaaDoorW.PrintLast Go.Proofs.YtbmhfnncagncmaaDoorW.PrintMore
attribute [local go_sem] max2_int min2_int max_two min_two max_three min_three max_four min_four   -- for this text's walks alone
set_option linter.unusedVariables false
set_option linter.unusedSimpArgs false

/-! ### salvorkeep_Dd_Args: function 7 -/
mutual
def salvorkeep_Dd_Args.j0 : Nat → List ByteArray → Int → Int → Int → Int → Int → Int → Int → Int → Int → Int → Int → Option (List ByteArray)
 | 0, _, _, _, _, _, _, _, _, _, _, _, _ => none
 | k + 1, x5, x262000, x262001, x262002, x262003, x262004, x262005, x262006, x262007, x262008, x262009, x262010 => salvorkeep_Dd_Args.l0 k x5 (([(⟨#[105, 98, 115]⟩ : ByteArray), (⟨#[111, 98, 115]⟩ : ByteArray), (⟨#[98, 115]⟩ : ByteArray), (⟨#[99, 98, 115]⟩ : ByteArray), (⟨#[115, 107, 105, 112]⟩ : ByteArray), (⟨#[115, 101, 101, 107]⟩ : ByteArray)] : List ByteArray)) (([Int.tmod x262002 40, Int.tmod x262003 40, Int.tmod x262004 40, Int.tmod x262005 20, Int.tmod x262006 12, Int.tmod x262007 12] : List Int)) 0 x262000 x262001 x262002 x262003 x262004 x262005 x262006 x262007 x262008 x262009 x262010
def salvorkeep_Dd_Args.l0 : Nat → List ByteArray → List ByteArray → List Int → Int → Int → Int → Int → Int → Int → Int → Int → Int → Int → Int → Int → Option (List ByteArray)
 | 0, _, _, _, _, _, _, _, _, _, _, _, _, _, _, _ => none
 | k + 1, x5, x6, x7, x8, x262000, x262001, x262002, x262003, x262004, x262005, x262006, x262007, x262008, x262009, x262010 => if x8 < (x6.length : Int) then (if 0 ≤ x8 then (if x8 < (x7.length : Int) then (if (rd x7 x8) > 0 then (if (rdOf ByteArray.empty x6 x8).size + 1 ≤ 9223372036854775807 then ((salvorkeep_Num.f k (wrap64 (rd x7 x8))).bind fun t282 => (if ((rdOf ByteArray.empty x6 x8) ++ (⟨#[61]⟩ : ByteArray)).size + t282.size ≤ 9223372036854775807 then (if x5.length < 8796093022208 then (salvorkeep_Dd_Args.l0 k (x5 ++ [((rdOf ByteArray.empty x6 x8) ++ (⟨#[61]⟩ : ByteArray)) ++ t282]) x6 x7 (wrap64 (x8 + 1)) x262000 x262001 x262002 x262003 x262004 x262005 x262006 x262007 x262008 x262009 x262010) else (none)) else (none))) else (none)) else (salvorkeep_Dd_Args.l0 k x5 x6 x7 (wrap64 (x8 + 1)) x262000 x262001 x262002 x262003 x262004 x262005 x262006 x262007 x262008 x262009 x262010)) else (none)) else (none)) else (if (Go.bits .and .u8 x262009 1) = 1 then ((salvorkeep_Num.f k (wrap64 (Int.tmod x262008 20))).bind fun t286 => (if 6 + t286.size ≤ 9223372036854775807 then (if x5.length < 8796093022208 then (salvorkeep_Dd_Args.j2 k (x5 ++ [(⟨#[99, 111, 117, 110, 116, 61]⟩ : ByteArray) ++ t286]) x262000 x262001 x262002 x262003 x262004 x262005 x262006 x262007 x262008 x262009 x262010) else (none)) else (none))) else (salvorkeep_Dd_Args.j2 k x5 x262000 x262001 x262002 x262003 x262004 x262005 x262006 x262007 x262008 x262009 x262010))
def salvorkeep_Dd_Args.j2 : Nat → List ByteArray → Int → Int → Int → Int → Int → Int → Int → Int → Int → Int → Int → Option (List ByteArray)
 | 0, _, _, _, _, _, _, _, _, _, _, _, _ => none
 | k + 1, x5, x262000, x262001, x262002, x262003, x262004, x262005, x262006, x262007, x262008, x262009, x262010 => if (Go.bits .and .u8 x262009 2) = 2 then (if x5.length < 8796093022208 then (salvorkeep_Dd_Args.j3 k (x5 ++ [(⟨#[105, 102, 108, 97, 103, 61, 102, 117, 108, 108, 98, 108, 111, 99, 107]⟩ : ByteArray)]) x262000 x262001 x262002 x262003 x262004 x262005 x262006 x262007 x262008 x262009 x262010) else (none)) else (salvorkeep_Dd_Args.j3 k x5 x262000 x262001 x262002 x262003 x262004 x262005 x262006 x262007 x262008 x262009 x262010)
def salvorkeep_Dd_Args.j3 : Nat → List ByteArray → Int → Int → Int → Int → Int → Int → Int → Int → Int → Int → Int → Option (List ByteArray)
 | 0, _, _, _, _, _, _, _, _, _, _, _, _ => none
 | k + 1, x5, x262000, x262001, x262002, x262003, x262004, x262005, x262006, x262007, x262008, x262009, x262010 => (salvorkeep_words.f).bind fun t293 => (salvorkeep_Dd_Args.l1 k x5 t293 0 x262000 x262001 x262002 x262003 x262004 x262005 x262006 x262007 x262008 x262009 x262010)
def salvorkeep_Dd_Args.l1 : Nat → List ByteArray → List ByteArray → Int → Int → Int → Int → Int → Int → Int → Int → Int → Int → Int → Int → Option (List ByteArray)
 | 0, _, _, _, _, _, _, _, _, _, _, _, _, _, _ => none
 | k + 1, x5, x9, x10, x262000, x262001, x262002, x262003, x262004, x262005, x262006, x262007, x262008, x262009, x262010 => if x10 < (x9.length : Int) then (if 0 ≤ (IntKind.u64.wrap (x10)) then (if (Go.bits .and .u32 (shr .u32 x262010 (IntKind.u64.wrap (x10))) 1) = 1 then (if 0 ≤ x10 then (if 5 + (rdOf ByteArray.empty x9 x10).size ≤ 9223372036854775807 then (if x5.length < 8796093022208 then (salvorkeep_Dd_Args.l1 k (x5 ++ [(⟨#[99, 111, 110, 118, 61]⟩ : ByteArray) ++ (rdOf ByteArray.empty x9 x10)]) x9 (wrap64 (x10 + 1)) x262000 x262001 x262002 x262003 x262004 x262005 x262006 x262007 x262008 x262009 x262010) else (none)) else (none)) else (none)) else (salvorkeep_Dd_Args.l1 k x5 x9 (wrap64 (x10 + 1)) x262000 x262001 x262002 x262003 x262004 x262005 x262006 x262007 x262008 x262009 x262010)) else (none)) else (some x5)
end
def salvorkeep_Dd_Args.f (k : Nat) (a0_0 : Int) (a0_1 : Int) (a0_2 : Int) (a0_3 : Int) (a0_4 : Int) (a0_5 : Int) (a0_6 : Int) (a0_7 : Int) (a0_8 : Int) (a0_9 : Int) (a0_10 : Int) (a1 : Bool) : Option (List ByteArray) := (salvorkeep_Right.f a0_1).bind fun t262 => (if 3 + t262.size ≤ 9223372036854775807 then ((some (([(⟨#[111, 102, 61]⟩ : ByteArray) ++ t262] : List ByteArray) : List ByteArray)).bind fun y263 => (if a1 = true then (if y263.length < 8796093022208 then (salvorkeep_Dd_Args.j0 k (y263 ++ [(⟨#[105, 102, 61, 100, 105, 115, 107]⟩ : ByteArray)]) a0_0 a0_1 a0_2 a0_3 a0_4 a0_5 a0_6 a0_7 a0_8 a0_9 a0_10) else (none)) else ((salvorkeep_Right.f a0_0).bind fun t269 => (if 3 + t269.size ≤ 9223372036854775807 then (if y263.length < 8796093022208 then (salvorkeep_Dd_Args.j0 k (y263 ++ [(⟨#[105, 102, 61]⟩ : ByteArray) ++ t269]) a0_0 a0_1 a0_2 a0_3 a0_4 a0_5 a0_6 a0_7 a0_8 a0_9 a0_10) else (none)) else (none))))) else (none))
theorem salvorkeep_Dd_Args.mono_l : ∀ k, (∀ y0 y1 y2 y3 y4 y5 y6 y7 y8 y9 y10 y11, LeO (salvorkeep_Dd_Args.j0 k y0 y1 y2 y3 y4 y5 y6 y7 y8 y9 y10 y11) (salvorkeep_Dd_Args.j0 (k + 1) y0 y1 y2 y3 y4 y5 y6 y7 y8 y9 y10 y11)) ∧ (∀ y0 y1 y2 y3 y4 y5 y6 y7 y8 y9 y10 y11 y12 y13 y14, LeO (salvorkeep_Dd_Args.l0 k y0 y1 y2 y3 y4 y5 y6 y7 y8 y9 y10 y11 y12 y13 y14) (salvorkeep_Dd_Args.l0 (k + 1) y0 y1 y2 y3 y4 y5 y6 y7 y8 y9 y10 y11 y12 y13 y14)) ∧ (∀ y0 y1 y2 y3 y4 y5 y6 y7 y8 y9 y10 y11, LeO (salvorkeep_Dd_Args.j2 k y0 y1 y2 y3 y4 y5 y6 y7 y8 y9 y10 y11) (salvorkeep_Dd_Args.j2 (k + 1) y0 y1 y2 y3 y4 y5 y6 y7 y8 y9 y10 y11)) ∧ (∀ y0 y1 y2 y3 y4 y5 y6 y7 y8 y9 y10 y11, LeO (salvorkeep_Dd_Args.j3 k y0 y1 y2 y3 y4 y5 y6 y7 y8 y9 y10 y11) (salvorkeep_Dd_Args.j3 (k + 1) y0 y1 y2 y3 y4 y5 y6 y7 y8 y9 y10 y11)) ∧ (∀ y0 y1 y2 y3 y4 y5 y6 y7 y8 y9 y10 y11 y12 y13, LeO (salvorkeep_Dd_Args.l1 k y0 y1 y2 y3 y4 y5 y6 y7 y8 y9 y10 y11 y12 y13) (salvorkeep_Dd_Args.l1 (k + 1) y0 y1 y2 y3 y4 y5 y6 y7 y8 y9 y10 y11 y12 y13))
 | 0 => ⟨fun _ _ _ _ _ _ _ _ _ _ _ _ r h => by simp [salvorkeep_Dd_Args.j0] at h, fun _ _ _ _ _ _ _ _ _ _ _ _ _ _ _ r h => by simp [salvorkeep_Dd_Args.l0] at h, fun _ _ _ _ _ _ _ _ _ _ _ _ r h => by simp [salvorkeep_Dd_Args.j2] at h, fun _ _ _ _ _ _ _ _ _ _ _ _ r h => by simp [salvorkeep_Dd_Args.j3] at h, fun _ _ _ _ _ _ _ _ _ _ _ _ _ _ r h => by simp [salvorkeep_Dd_Args.l1] at h⟩
 | k + 1 => by
  obtain ⟨ih0, ih1, ih2, ih3, ih4⟩ := salvorkeep_Dd_Args.mono_l k
  refine ⟨?_, ?_, ?_, ?_, ?_⟩
  ·intro y0 y1 y2 y3 y4 y5 y6 y7 y8 y9 y10 y11
   unfold salvorkeep_Dd_Args.j0
   repeat' first
   | (with_reducible exact ih0 _ _ _ _ _ _ _ _ _ _ _ _)
   | (with_reducible exact ih1 _ _ _ _ _ _ _ _ _ _ _ _ _ _ _)
   | (with_reducible exact ih2 _ _ _ _ _ _ _ _ _ _ _ _)
   | (with_reducible exact ih3 _ _ _ _ _ _ _ _ _ _ _ _)
   | (with_reducible exact ih4 _ _ _ _ _ _ _ _ _ _ _ _ _ _)
   | (with_reducible exact salvorkeep_Num.mono _ _)
   | (with_reducible exact LeO.refl _)
   | (with_reducible exact LeO.none _)
   | (with_reducible refine LeO.ite ?_ ?_)
   | (with_reducible refine LeO.bind ?_ (fun _ => ?_))
   | exact ih0 _ _ _ _ _ _ _ _ _ _ _ _
   | exact ih1 _ _ _ _ _ _ _ _ _ _ _ _ _ _ _
   | exact ih2 _ _ _ _ _ _ _ _ _ _ _ _
   | exact ih3 _ _ _ _ _ _ _ _ _ _ _ _
   | exact ih4 _ _ _ _ _ _ _ _ _ _ _ _ _ _
   | exact salvorkeep_Num.mono _ _
   | exact LeO.none _
   | refine LeO.ite ?_ ?_
   | refine LeO.bind ?_ (fun _ => ?_)
  ·intro y0 y1 y2 y3 y4 y5 y6 y7 y8 y9 y10 y11 y12 y13 y14
   unfold salvorkeep_Dd_Args.l0
   repeat' first
   | (with_reducible exact ih0 _ _ _ _ _ _ _ _ _ _ _ _)
   | (with_reducible exact ih1 _ _ _ _ _ _ _ _ _ _ _ _ _ _ _)
   | (with_reducible exact ih2 _ _ _ _ _ _ _ _ _ _ _ _)
   | (with_reducible exact ih3 _ _ _ _ _ _ _ _ _ _ _ _)
   | (with_reducible exact ih4 _ _ _ _ _ _ _ _ _ _ _ _ _ _)
   | (with_reducible exact salvorkeep_Num.mono _ _)
   | (with_reducible exact LeO.refl _)
   | (with_reducible exact LeO.none _)
   | (with_reducible refine LeO.ite ?_ ?_)
   | (with_reducible refine LeO.bind ?_ (fun _ => ?_))
   | exact ih0 _ _ _ _ _ _ _ _ _ _ _ _
   | exact ih1 _ _ _ _ _ _ _ _ _ _ _ _ _ _ _
   | exact ih2 _ _ _ _ _ _ _ _ _ _ _ _
   | exact ih3 _ _ _ _ _ _ _ _ _ _ _ _
   | exact ih4 _ _ _ _ _ _ _ _ _ _ _ _ _ _
   | exact salvorkeep_Num.mono _ _
   | exact LeO.none _
   | refine LeO.ite ?_ ?_
   | refine LeO.bind ?_ (fun _ => ?_)
  ·intro y0 y1 y2 y3 y4 y5 y6 y7 y8 y9 y10 y11
   unfold salvorkeep_Dd_Args.j2
   repeat' first
   | (with_reducible exact ih0 _ _ _ _ _ _ _ _ _ _ _ _)
   | (with_reducible exact ih1 _ _ _ _ _ _ _ _ _ _ _ _ _ _ _)
   | (with_reducible exact ih2 _ _ _ _ _ _ _ _ _ _ _ _)
   | (with_reducible exact ih3 _ _ _ _ _ _ _ _ _ _ _ _)
   | (with_reducible exact ih4 _ _ _ _ _ _ _ _ _ _ _ _ _ _)
   | (with_reducible exact salvorkeep_Num.mono _ _)
   | (with_reducible exact LeO.refl _)
   | (with_reducible exact LeO.none _)
   | (with_reducible refine LeO.ite ?_ ?_)
   | (with_reducible refine LeO.bind ?_ (fun _ => ?_))
   | exact ih0 _ _ _ _ _ _ _ _ _ _ _ _
   | exact ih1 _ _ _ _ _ _ _ _ _ _ _ _ _ _ _
   | exact ih2 _ _ _ _ _ _ _ _ _ _ _ _
   | exact ih3 _ _ _ _ _ _ _ _ _ _ _ _
   | exact ih4 _ _ _ _ _ _ _ _ _ _ _ _ _ _
   | exact salvorkeep_Num.mono _ _
   | exact LeO.none _
   | refine LeO.ite ?_ ?_
   | refine LeO.bind ?_ (fun _ => ?_)
  ·intro y0 y1 y2 y3 y4 y5 y6 y7 y8 y9 y10 y11
   unfold salvorkeep_Dd_Args.j3
   repeat' first
   | (with_reducible exact ih0 _ _ _ _ _ _ _ _ _ _ _ _)
   | (with_reducible exact ih1 _ _ _ _ _ _ _ _ _ _ _ _ _ _ _)
   | (with_reducible exact ih2 _ _ _ _ _ _ _ _ _ _ _ _)
   | (with_reducible exact ih3 _ _ _ _ _ _ _ _ _ _ _ _)
   | (with_reducible exact ih4 _ _ _ _ _ _ _ _ _ _ _ _ _ _)
   | (with_reducible exact salvorkeep_Num.mono _ _)
   | (with_reducible exact LeO.refl _)
   | (with_reducible exact LeO.none _)
   | (with_reducible refine LeO.ite ?_ ?_)
   | (with_reducible refine LeO.bind ?_ (fun _ => ?_))
   | exact ih0 _ _ _ _ _ _ _ _ _ _ _ _
   | exact ih1 _ _ _ _ _ _ _ _ _ _ _ _ _ _ _
   | exact ih2 _ _ _ _ _ _ _ _ _ _ _ _
   | exact ih3 _ _ _ _ _ _ _ _ _ _ _ _
   | exact ih4 _ _ _ _ _ _ _ _ _ _ _ _ _ _
   | exact salvorkeep_Num.mono _ _
   | exact LeO.none _
   | refine LeO.ite ?_ ?_
   | refine LeO.bind ?_ (fun _ => ?_)
  ·intro y0 y1 y2 y3 y4 y5 y6 y7 y8 y9 y10 y11 y12 y13
   unfold salvorkeep_Dd_Args.l1
   repeat' first
   | (with_reducible exact ih0 _ _ _ _ _ _ _ _ _ _ _ _)
   | (with_reducible exact ih1 _ _ _ _ _ _ _ _ _ _ _ _ _ _ _)
   | (with_reducible exact ih2 _ _ _ _ _ _ _ _ _ _ _ _)
   | (with_reducible exact ih3 _ _ _ _ _ _ _ _ _ _ _ _)
   | (with_reducible exact ih4 _ _ _ _ _ _ _ _ _ _ _ _ _ _)
   | (with_reducible exact salvorkeep_Num.mono _ _)
   | (with_reducible exact LeO.refl _)
   | (with_reducible exact LeO.none _)
   | (with_reducible refine LeO.ite ?_ ?_)
   | (with_reducible refine LeO.bind ?_ (fun _ => ?_))
   | exact ih0 _ _ _ _ _ _ _ _ _ _ _ _
   | exact ih1 _ _ _ _ _ _ _ _ _ _ _ _ _ _ _
   | exact ih2 _ _ _ _ _ _ _ _ _ _ _ _
   | exact ih3 _ _ _ _ _ _ _ _ _ _ _ _
   | exact ih4 _ _ _ _ _ _ _ _ _ _ _ _ _ _
   | exact salvorkeep_Num.mono _ _
   | exact LeO.none _
   | refine LeO.ite ?_ ?_
   | refine LeO.bind ?_ (fun _ => ?_)
theorem salvorkeep_Dd_Args.mono : ∀ a0 a1 a2 a3 a4 a5 a6 a7 a8 a9 a10 a11 k, LeO (salvorkeep_Dd_Args.f k a0 a1 a2 a3 a4 a5 a6 a7 a8 a9 a10 a11) (salvorkeep_Dd_Args.f (k + 1) a0 a1 a2 a3 a4 a5 a6 a7 a8 a9 a10 a11) := by
 intro a0 a1 a2 a3 a4 a5 a6 a7 a8 a9 a10 a11 k
 obtain ⟨ih0, ih1, ih2, ih3, ih4⟩ := salvorkeep_Dd_Args.mono_l k
 unfold salvorkeep_Dd_Args.f
 repeat' first
   | (with_reducible exact ih0 _ _ _ _ _ _ _ _ _ _ _ _)
   | (with_reducible exact ih1 _ _ _ _ _ _ _ _ _ _ _ _ _ _ _)
   | (with_reducible exact ih2 _ _ _ _ _ _ _ _ _ _ _ _)
   | (with_reducible exact ih3 _ _ _ _ _ _ _ _ _ _ _ _)
   | (with_reducible exact ih4 _ _ _ _ _ _ _ _ _ _ _ _ _ _)
   | (with_reducible exact salvorkeep_Num.mono _ _)
   | (with_reducible exact LeO.refl _)
   | (with_reducible exact LeO.none _)
   | (with_reducible refine LeO.ite ?_ ?_)
   | (with_reducible refine LeO.bind ?_ (fun _ => ?_))
   | exact ih0 _ _ _ _ _ _ _ _ _ _ _ _
   | exact ih1 _ _ _ _ _ _ _ _ _ _ _ _ _ _ _
   | exact ih2 _ _ _ _ _ _ _ _ _ _ _ _
   | exact ih3 _ _ _ _ _ _ _ _ _ _ _ _
   | exact ih4 _ _ _ _ _ _ _ _ _ _ _ _ _ _
   | exact salvorkeep_Num.mono _ _
   | exact LeO.none _
   | refine LeO.ite ?_ ?_
   | refine LeO.bind ?_ (fun _ => ?_)
def salvorkeep_Dd_Args.T11 : Bool × List (List Nat × List Nat) := (true, [([], []), ([], []), ([], []), ([1, 2], [1, 2]), ([3], [3]), ([4], [4]), ([], []), ([], []), ([6, 7], [6, 7]), ([8], [8]), ([9], [9]), ([10], [10]), ([5, 11], [5, 11]), ([12], [12]), ([0, 13, 11], [0, 13]), ([14, 14, 0, 1, 2, 3, 4, 5, 6, 7, 8, 9, 10, 11, 12, 13, 14], [0, 14])])
def salvorkeep_Dd_Args.B11 : List Nat := [0, 0, 0, 6, 14, 30, 0, 0, 192, 448, 960, 1984, 4094, 8190, 16383, 32767]
theorem salvorkeep_Dd_Args.tab11 : rtab .any (opsOf Tryd.f7 11) = salvorkeep_Dd_Args.T11 := by kernel_rfl
theorem salvorkeep_Dd_Args.bits11 : waitsOk salvorkeep_Dd_Args.T11.2 salvorkeep_Dd_Args.B11 = true := by kernel_rfl
set_option maxHeartbeats 8000000 in
set_option maxRecDepth 100000 in
theorem salvorkeep_Dd_Args.calls (k : Nat) (a0_0 : Int) (a0_1 : Int) (a0_2 : Int) (a0_3 : Int) (a0_4 : Int) (a0_5 : Int) (a0_6 : Int) (a0_7 : Int) (a0_8 : Int) (a0_9 : Int) (a0_10 : Int) (a1 : Bool) (r : List ByteArray) (w : World) (h : salvorkeep_Dd_Args.f k a0_0 a0_1 a0_2 a0_3 a0_4 a0_5 a0_6 a0_7 a0_8 a0_9 a0_10 a1 = some r) :
  Calls Tryd.prog 7 #[.agg #[.int .u8 a0_0, .int .u8 a0_1, .int .u8 a0_2, .int .u8 a0_3, .int .u8 a0_4, .int .u8 a0_5, .int .u8 a0_6, .int .u8 a0_7, .int .u8 a0_8, .int .u8 a0_9, .int .u32 a0_10], .bool a1] w fun e w' => ∃ v0_ : Value, e = .returned (v0_) ∧ Kd.R Kd.string 9 w' w.heap.size (fun _ => True) v0_ r ∧ Below w.heap.size w w' := by
 have hu32 := Tryd.underlying32
 have HB := Aside0.mk (Below.refl w.heap.size w)
 have H : ((salvorkeep_Right.f a0_1).bind fun t262 => (if 3 + t262.size ≤ 9223372036854775807 then ((some (([(⟨#[111, 102, 61]⟩ : ByteArray) ++ t262] : List ByteArray) : List ByteArray)).bind fun y263 => (if a1 = true then (if y263.length < 8796093022208 then (salvorkeep_Dd_Args.j0 k (y263 ++ [(⟨#[105, 102, 61, 100, 105, 115, 107]⟩ : ByteArray)]) a0_0 a0_1 a0_2 a0_3 a0_4 a0_5 a0_6 a0_7 a0_8 a0_9 a0_10) else (none)) else ((salvorkeep_Right.f a0_0).bind fun t269 => (if 3 + t269.size ≤ 9223372036854775807 then (if y263.length < 8796093022208 then (salvorkeep_Dd_Args.j0 k (y263 ++ [(⟨#[105, 102, 61]⟩ : ByteArray) ++ t269]) a0_0 a0_1 a0_2 a0_3 a0_4 a0_5 a0_6 a0_7 a0_8 a0_9 a0_10) else (none)) else (none))))) else (none))) = some r := h
 clear h
 replace H := Option.bind_eq_some_iff.mp H
 obtain ⟨t262, A30, H⟩ := H
 replace H : (if 3 + t262.size ≤ 9223372036854775807 then ((some (([(⟨#[111, 102, 61]⟩ : ByteArray) ++ t262] : List ByteArray) : List ByteArray)).bind fun y263 => (if a1 = true then (if y263.length < 8796093022208 then (salvorkeep_Dd_Args.j0 k (y263 ++ [(⟨#[105, 102, 61, 100, 105, 115, 107]⟩ : ByteArray)]) a0_0 a0_1 a0_2 a0_3 a0_4 a0_5 a0_6 a0_7 a0_8 a0_9 a0_10) else (none)) else ((salvorkeep_Right.f a0_0).bind fun t269 => (if 3 + t269.size ≤ 9223372036854775807 then (if y263.length < 8796093022208 then (salvorkeep_Dd_Args.j0 k (y263 ++ [(⟨#[105, 102, 61]⟩ : ByteArray) ++ t269]) a0_0 a0_1 a0_2 a0_3 a0_4 a0_5 a0_6 a0_7 a0_8 a0_9 a0_10) else (none)) else (none))))) else (none)) = some r := H
 have A3 := Aside0.mk A30
 clear A30
 by_cases c4 : 3 + t262.size ≤ 9223372036854775807
 ·rw [if_pos c4] at H
  have c4b0 := eq_true c4
  have c4b1 : decide (3 + t262.size ≤ 9223372036854775807) = true := decide_eq_true c4
  try have c4b2 : (9223372036854775807 < 3 + t262.size) = False := eq_false (Nat.not_lt.2 c4)
  obtain ⟨y263, hy263⟩ : ∃ y_ : List ByteArray, y_ = (([(⟨#[111, 102, 61]⟩ : ByteArray) ++ t262] : List ByteArray)) := ⟨_, rfl⟩
  replace H : (if a1 = true then (if y263.length < 8796093022208 then (salvorkeep_Dd_Args.j0 k (y263 ++ [(⟨#[105, 102, 61, 100, 105, 115, 107]⟩ : ByteArray)]) a0_0 a0_1 a0_2 a0_3 a0_4 a0_5 a0_6 a0_7 a0_8 a0_9 a0_10) else (none)) else ((salvorkeep_Right.f a0_0).bind fun t269 => (if 3 + t269.size ≤ 9223372036854775807 then (if y263.length < 8796093022208 then (salvorkeep_Dd_Args.j0 k (y263 ++ [(⟨#[105, 102, 61]⟩ : ByteArray) ++ t269]) a0_0 a0_1 a0_2 a0_3 a0_4 a0_5 a0_6 a0_7 a0_8 a0_9 a0_10) else (none)) else (none)))) = some r := by first | (rw [hy263]; with_reducible exact H) | (have H2_ := (Option.bind_some _ _).symm.trans H; rw [hy263]; with_reducible exact H2_) | (have H2_ := (Option.bind_some _ _).symm.trans H; with_reducible exact H2_) | with_reducible exact H | (rw [hy263]; exact H) | exact H
  have Ny263 := Aside0.mk hy263
  clear hy263
  have HC5 := Aside0.mk H
  clear H
  go_enter Tryd.func7, Tryd.ntmps7
  go_upto_if 16 with (first | ((with_reducible refine gate_dst (N := 2) rfl ?_); refine box_e 2 #[.int .u8 a0_0, .int .u8 a0_1, .int .u8 a0_2, .int .u8 a0_3, .int .u8 a0_4, .int .u8 a0_5, .int .u8 a0_6, .int .u8 a0_7, .int .u8 a0_8, .int .u8 a0_9, .int .u32 a0_10] 32 ?_; intro gb261 hg w6 hbox hb; have BK261 := Aside0.mk hbox; have GW261 := bg_ HB hg; have GE261 := bg_ HB hg; replace HB := bs_ HB hb; clear hb hbox hg; have hcz7_0 : w6.cell? ⟨gb261, 0, none⟩ = some (.int .u8 a0_0) := (blk_cell BK261.out 0).trans rfl; have hcz7_1 : w6.cell? ⟨gb261, 1, none⟩ = some (.int .u8 a0_1) := (blk_cell BK261.out 1).trans rfl; have hcz7_2 : w6.cell? ⟨gb261, 2, none⟩ = some (.int .u8 a0_2) := (blk_cell BK261.out 2).trans rfl; have hcz7_3 : w6.cell? ⟨gb261, 3, none⟩ = some (.int .u8 a0_3) := (blk_cell BK261.out 3).trans rfl; have hcz7_4 : w6.cell? ⟨gb261, 4, none⟩ = some (.int .u8 a0_4) := (blk_cell BK261.out 4).trans rfl; have hcz7_5 : w6.cell? ⟨gb261, 5, none⟩ = some (.int .u8 a0_5) := (blk_cell BK261.out 5).trans rfl; have hcz7_6 : w6.cell? ⟨gb261, 6, none⟩ = some (.int .u8 a0_6) := (blk_cell BK261.out 6).trans rfl; have hcz7_7 : w6.cell? ⟨gb261, 7, none⟩ = some (.int .u8 a0_7) := (blk_cell BK261.out 7).trans rfl; have hcz7_8 : w6.cell? ⟨gb261, 8, none⟩ = some (.int .u8 a0_8) := (blk_cell BK261.out 8).trans rfl; have hcz7_9 : w6.cell? ⟨gb261, 9, none⟩ = some (.int .u8 a0_9) := (blk_cell BK261.out 9).trans rfl; have hcz7_10 : w6.cell? ⟨gb261, 10, none⟩ = some (.int .u32 a0_10) := (blk_cell BK261.out 10).trans rfl; have hfz7_0 := blk_frozen BK261.out 0; have hfz7_1 := blk_frozen BK261.out 1; have hfz7_2 := blk_frozen BK261.out 2; have hfz7_3 := blk_frozen BK261.out 3; have hfz7_4 := blk_frozen BK261.out 4; have hfz7_5 := blk_frozen BK261.out 5; have hfz7_6 := blk_frozen BK261.out 6; have hfz7_7 := blk_frozen BK261.out 7; have hfz7_8 := blk_frozen BK261.out 8; have hfz7_9 := blk_frozen BK261.out 9; have hfz7_10 := blk_frozen BK261.out 10) | ((with_reducible refine gate_callee (f := 16) rfl ?_); refine gl_ (some 13) rfl rfl Tryd.func16 (by kernel_rfl) rfl #[.int .u8 a0_1] rfl ?_; (with_reducible refine (salvorkeep_Right.calls a0_1 t262 _ A3.out).mono ?_); rintro e w8 ⟨rfl, hb⟩; refine ⟨_, rfl, ?_⟩; replace BK261 := bb_ BK261 hb; replace HB := bs_ HB hb; (try clear hb)) | ((with_reducible refine gate_dst (N := 15) rfl ?_); refine Kd.R_lit Kd.string _ 9 ?hg (N := 15) ?hd (xs := ([(⟨#[111, 102, 61]⟩ : ByteArray) ++ t262] : List ByteArray)) (inner := [.string ((⟨#[111, 102, 61]⟩ : ByteArray) ++ t262)]) (ok := fun _ => True) (okp := fun _ => True) ?hr ?hp (fun _ hk => hk) trivial (Below.refl _ _) (Nat.le_refl _) (by simp) ?_; (case hd => rfl); (case hg => rfl); (case hr => first | (go_simp; done) | (go_simp; rfl)); (case hp => exact (Reps.one (show Kd.M Kd.string _ _ _ ((⟨#[111, 102, 61]⟩ : ByteArray) ++ t262) [.string ((⟨#[111, 102, 61]⟩ : ByteArray) ++ t262)] from rfl) (Reps.none _ _))); intro v264 w9 ho10 hb hg_ hnew_; clear hg_ hnew_; (first | rw [← Ny263.out] at ho10 | (simp only [Int.reduceToNat] at ho10; rw [← Ny263.out] at ho10)); have HO265 := Aside0.mk (Kd.R_lower ho10 (below_size (bh_ HB))); replace BK261 := bb_ BK261 hb; replace HB := bs_ HB hb; clear hb ho10))
  (try simp only [Act.put, List.setIfInBounds_toArray, List.set_cons_zero, List.set_cons_succ])
  go_cut [5] (fun v5 wc => ∃ (kq : Nat) (x5_4 : List ByteArray), Aside0 (salvorkeep_Dd_Args.j0 kq x5_4 a0_0 a0_1 a0_2 a0_3 a0_4 a0_5 a0_6 a0_7 a0_8 a0_9 a0_10 = some r) ∧ Aside0 (kq ≤ k) ∧ Aside0 (Kd.R Kd.string 9 wc w.heap.size (fun _ => True) v5 x5_4) ∧ Aside0 (wc.heap[gb261]? = some (.cells #[.int .u8 a0_0, .int .u8 a0_1, .int .u8 a0_2, .int .u8 a0_3, .int .u8 a0_4, .int .u8 a0_5, .int .u8 a0_6, .int .u8 a0_7, .int .u8 a0_8, .int .u8 a0_9, .int .u32 a0_10] 32 (0, 0))) ∧ Aside0 (Below w.heap.size w wc))
  case first =>
   have H := HC5.out
   clear HC5
   by_cases c11 : a1 = true
   ·subst c11
    have H1 : (if y263.length < 8796093022208 then (salvorkeep_Dd_Args.j0 k (y263 ++ [(⟨#[105, 102, 61, 100, 105, 115, 107]⟩ : ByteArray)]) a0_0 a0_1 a0_2 a0_3 a0_4 a0_5 a0_6 a0_7 a0_8 a0_9 a0_10) else (none)) = some r := by rw [if_pos rfl] at H; exact H
    clear H
    have H := H1
    clear H1
    by_cases c12 : y263.length < 8796093022208
    ·rw [if_pos c12] at H
     have LMc12 := Aside0.mk c12
     clear c12
     obtain ⟨y266, hy266⟩ : ∃ y_ : List ByteArray, y_ = (y263 ++ [(⟨#[105, 102, 61, 100, 105, 115, 107]⟩ : ByteArray)]) := ⟨_, rfl⟩
     replace H : (salvorkeep_Dd_Args.j0 k y266 a0_0 a0_1 a0_2 a0_3 a0_4 a0_5 a0_6 a0_7 a0_8 a0_9 a0_10) = some r := by first | (rw [hy266]; with_reducible exact H) | (have H2_ := (Option.bind_some _ _).symm.trans H; rw [hy266]; with_reducible exact H2_) | (have H2_ := (Option.bind_some _ _).symm.trans H; with_reducible exact H2_) | with_reducible exact H | (rw [hy266]; exact H) | exact H
     have Ny266 := Aside0.mk hy266
     clear hy266
     have H' := Aside0.mk H
     clear H
     go_wp2_with (first | ((with_reducible refine gate_builtin (b := .append) (xs := #[.tmp 17, .tmp 18]) rfl ?_); at_builtin; refine Kd.R_append Kd.string (w0 := w) w.heap.size rfl (.tmp 17) (.tmp 18) 33 9 (.string ⟨#[]⟩) 16 rfl Tryd.underlying33 info9 rfl (by decide) (by omega) v264 y263 (⟨#[105, 102, 61, 100, 105, 115, 107]⟩ : ByteArray) [.string (⟨#[105, 102, 61, 100, 105, 115, 107]⟩ : ByteArray)] (fun _ => True) (fun _ => False) rfl rfl ?aP (fun _ hk => hk.elim) ?aF ?aO ?aB ?aS ?aL ?_; (case aP => exact rfl); (case aB => exact (bh_ HB)); (case aF => exact (fun _ _ => trivial)); (case aO => exact (by (with_reducible repeat (first | apply Kd.R_alloc | apply Kd.R_drewN | apply Kd.R_drew)); exact HO265.out)); (case aS => exact (below_size (bh_ HB))); (case aL => have := LMc12.out; omega); intro v267 w13 ho hb hg hat; rw [← Ny266.out] at ho; have HO268 := Aside0.mk (ho); replace BK261 := Aside0.mk (blk_grown (g := gb261) (o := .cells #[.int .u8 a0_0, .int .u8 a0_1, .int .u8 a0_2, .int .u8 a0_3, .int .u8 a0_4, .int .u8 a0_5, .int .u8 a0_6, .int .u8 a0_7, .int .u8 a0_8, .int .u8 a0_9, .int .u32 a0_10] 32 (0, 0)) (bq_ BK261) hg (Kd.R_ne HO265.out BK261.out (by decide))); replace HB := Aside0.mk (hb); clear HO265; clear ho hb hg hat))
     go_meet
     case rel => exact ⟨_, (y266), H', ⟨by first | omega | exact Nat.le_refl _⟩, ⟨by (with_reducible repeat (first | apply Kd.R_alloc | apply Kd.R_drewN | apply Kd.R_drew)); exact HO268.out⟩, ⟨bq_ BK261⟩, ⟨bh_ HB⟩⟩
    ·rw [if_neg c12] at H
     exact absurd H (by simp)
   ·replace c11 := Bool.eq_false_iff.mpr c11
    subst c11
    have H1 : ((salvorkeep_Right.f a0_0).bind fun t269 => (if 3 + t269.size ≤ 9223372036854775807 then (if y263.length < 8796093022208 then (salvorkeep_Dd_Args.j0 k (y263 ++ [(⟨#[105, 102, 61]⟩ : ByteArray) ++ t269]) a0_0 a0_1 a0_2 a0_3 a0_4 a0_5 a0_6 a0_7 a0_8 a0_9 a0_10) else (none)) else (none))) = some r := by rw [if_neg (show ¬ (false = true) by decide)] at H; exact H
    clear H
    have H := H1
    clear H1
    replace H := Option.bind_eq_some_iff.mp H
    obtain ⟨t269, A140, H⟩ := H
    replace H : (if 3 + t269.size ≤ 9223372036854775807 then (if y263.length < 8796093022208 then (salvorkeep_Dd_Args.j0 k (y263 ++ [(⟨#[105, 102, 61]⟩ : ByteArray) ++ t269]) a0_0 a0_1 a0_2 a0_3 a0_4 a0_5 a0_6 a0_7 a0_8 a0_9 a0_10) else (none)) else (none)) = some r := H
    have A14 := Aside0.mk A140
    clear A140
    by_cases c15 : 3 + t269.size ≤ 9223372036854775807
    ·rw [if_pos c15] at H
     have c15b0 := eq_true c15
     have c15b1 : decide (3 + t269.size ≤ 9223372036854775807) = true := decide_eq_true c15
     try have c15b2 : (9223372036854775807 < 3 + t269.size) = False := eq_false (Nat.not_lt.2 c15)
     by_cases c16 : y263.length < 8796093022208
     ·rw [if_pos c16] at H
      have LMc16 := Aside0.mk c16
      clear c16
      obtain ⟨y270, hy270⟩ : ∃ y_ : List ByteArray, y_ = (y263 ++ [(⟨#[105, 102, 61]⟩ : ByteArray) ++ t269]) := ⟨_, rfl⟩
      replace H : (salvorkeep_Dd_Args.j0 k y270 a0_0 a0_1 a0_2 a0_3 a0_4 a0_5 a0_6 a0_7 a0_8 a0_9 a0_10) = some r := by first | (rw [hy270]; with_reducible exact H) | (have H2_ := (Option.bind_some _ _).symm.trans H; rw [hy270]; with_reducible exact H2_) | (have H2_ := (Option.bind_some _ _).symm.trans H; with_reducible exact H2_) | with_reducible exact H | (rw [hy270]; exact H) | exact H
      have Ny270 := Aside0.mk hy270
      clear hy270
      have H' := Aside0.mk H
      clear H
      have hcz17_0 : w9.cell? ⟨gb261, 0, none⟩ = some (.int .u8 a0_0) := (blk_cell BK261.out 0).trans rfl
      have hcz17_1 : w9.cell? ⟨gb261, 1, none⟩ = some (.int .u8 a0_1) := (blk_cell BK261.out 1).trans rfl
      have hcz17_2 : w9.cell? ⟨gb261, 2, none⟩ = some (.int .u8 a0_2) := (blk_cell BK261.out 2).trans rfl
      have hcz17_3 : w9.cell? ⟨gb261, 3, none⟩ = some (.int .u8 a0_3) := (blk_cell BK261.out 3).trans rfl
      have hcz17_4 : w9.cell? ⟨gb261, 4, none⟩ = some (.int .u8 a0_4) := (blk_cell BK261.out 4).trans rfl
      have hcz17_5 : w9.cell? ⟨gb261, 5, none⟩ = some (.int .u8 a0_5) := (blk_cell BK261.out 5).trans rfl
      have hcz17_6 : w9.cell? ⟨gb261, 6, none⟩ = some (.int .u8 a0_6) := (blk_cell BK261.out 6).trans rfl
      have hcz17_7 : w9.cell? ⟨gb261, 7, none⟩ = some (.int .u8 a0_7) := (blk_cell BK261.out 7).trans rfl
      have hcz17_8 : w9.cell? ⟨gb261, 8, none⟩ = some (.int .u8 a0_8) := (blk_cell BK261.out 8).trans rfl
      have hcz17_9 : w9.cell? ⟨gb261, 9, none⟩ = some (.int .u8 a0_9) := (blk_cell BK261.out 9).trans rfl
      have hcz17_10 : w9.cell? ⟨gb261, 10, none⟩ = some (.int .u32 a0_10) := (blk_cell BK261.out 10).trans rfl
      have hfz17_0 := blk_frozen BK261.out 0
      have hfz17_1 := blk_frozen BK261.out 1
      have hfz17_2 := blk_frozen BK261.out 2
      have hfz17_3 := blk_frozen BK261.out 3
      have hfz17_4 := blk_frozen BK261.out 4
      have hfz17_5 := blk_frozen BK261.out 5
      have hfz17_6 := blk_frozen BK261.out 6
      have hfz17_7 := blk_frozen BK261.out 7
      have hfz17_8 := blk_frozen BK261.out 8
      have hfz17_9 := blk_frozen BK261.out 9
      have hfz17_10 := blk_frozen BK261.out 10
      go_wp2_with (first | ((with_reducible refine gate_callee (f := 16) rfl ?_); refine gl_ (some 23) rfl rfl Tryd.func16 (by kernel_rfl) rfl #[.int .u8 a0_0] rfl ?_; (with_reducible refine (salvorkeep_Right.calls a0_0 t269 _ A14.out).mono ?_); rintro e w18 ⟨rfl, hb⟩; refine ⟨_, rfl, ?_⟩; have n0_ := Aside0.mk (Kd.R_below (by (with_reducible repeat (first | apply Kd.R_alloc | apply Kd.R_drewN | apply Kd.R_drew)); exact HO265.out) hb); have n1_ := bb_ BK261 hb; have n2_ := bs_ HB hb; clear HO265; clear BK261; clear HB; have HO265 := n0_; have BK261 := n1_; have HB := n2_; clear n0_ n1_ n2_; (try clear hb)) | ((with_reducible refine gate_builtin (b := .append) (xs := #[.tmp 20, .tmp 25]) rfl ?_); at_builtin; refine Kd.R_append Kd.string (w0 := w) w.heap.size rfl (.tmp 20) (.tmp 25) 33 9 (.string ⟨#[]⟩) 16 rfl Tryd.underlying33 info9 rfl (by decide) (by omega) v264 y263 ((⟨#[105, 102, 61]⟩ : ByteArray) ++ t269) [.string ((⟨#[105, 102, 61]⟩ : ByteArray) ++ t269)] (fun _ => True) (fun _ => False) rfl rfl ?aP (fun _ hk => hk.elim) ?aF ?aO ?aB ?aS ?aL ?_; (case aP => exact rfl); (case aB => exact (bh_ HB)); (case aF => exact (fun _ _ => trivial)); (case aO => exact (by (with_reducible repeat (first | apply Kd.R_alloc | apply Kd.R_drewN | apply Kd.R_drew)); exact HO265.out)); (case aS => exact (below_size (bh_ HB))); (case aL => have := LMc16.out; omega); intro v271 w19 ho hb hg hat; rw [← Ny270.out] at ho; have HO272 := Aside0.mk (ho); replace BK261 := Aside0.mk (blk_grown (g := gb261) (o := .cells #[.int .u8 a0_0, .int .u8 a0_1, .int .u8 a0_2, .int .u8 a0_3, .int .u8 a0_4, .int .u8 a0_5, .int .u8 a0_6, .int .u8 a0_7, .int .u8 a0_8, .int .u8 a0_9, .int .u32 a0_10] 32 (0, 0)) (bq_ BK261) hg (Kd.R_ne HO265.out BK261.out (by decide))); replace HB := Aside0.mk (hb); clear HO265; clear ho hb hg hat))
      go_meet
      case rel => exact ⟨_, (y270), H', ⟨by first | omega | exact Nat.le_refl _⟩, ⟨by (with_reducible repeat (first | apply Kd.R_alloc | apply Kd.R_drewN | apply Kd.R_drew)); exact HO272.out⟩, ⟨bq_ BK261⟩, ⟨bh_ HB⟩⟩
     ·rw [if_neg c16] at H
      exact absurd H (by simp)
    ·rw [if_neg c15] at H
     exact absurd H (by simp)
  case rest =>
   clear HC5
   try clear c1
   try clear p2
   try clear c4
   try clear c4b0
   try clear c4b1
   try clear c4b2
   try clear c7
   try clear c11
   try clear c12
   try clear c15
   try clear c15b0
   try clear c15b1
   try clear c15b2
   try clear c16
   try clear hcz17_0 hcz17_1 hcz17_10 hcz17_2 hcz17_3 hcz17_4 hcz17_5 hcz17_6 hcz17_7 hcz17_8 hcz17_9
   try clear hcz7_0 hcz7_1 hcz7_10 hcz7_2 hcz7_3 hcz7_4 hcz7_5 hcz7_6 hcz7_7 hcz7_8 hcz7_9
   try clear hfz17_0 hfz17_1 hfz17_10 hfz17_2 hfz17_3 hfz17_4 hfz17_5 hfz17_6 hfz17_7 hfz17_8 hfz17_9
   try clear hfz7_0 hfz7_1 hfz7_10 hfz7_2 hfz7_3 hfz7_4 hfz7_5 hfz7_6 hfz7_7 hfz7_8 hfz7_9
   obtain ⟨kq, x5_4, HA, HJ4, HO_5, BK261, HB⟩ := hcut
   cases kq with
   | zero => exact absurd HA.out (by simp [salvorkeep_Dd_Args.j0])
   | succ kj4 =>
    have H := HA.out
    clear HA
    simp only [salvorkeep_Dd_Args.j0] at H
    obtain ⟨y273, hy273⟩ : ∃ y_ : List ByteArray, y_ = (([(⟨#[105, 98, 115]⟩ : ByteArray), (⟨#[111, 98, 115]⟩ : ByteArray), (⟨#[98, 115]⟩ : ByteArray), (⟨#[99, 98, 115]⟩ : ByteArray), (⟨#[115, 107, 105, 112]⟩ : ByteArray), (⟨#[115, 101, 101, 107]⟩ : ByteArray)] : List ByteArray)) := ⟨_, rfl⟩
    replace H : (salvorkeep_Dd_Args.l0 kj4 x5_4 y273 (([Int.tmod a0_2 40, Int.tmod a0_3 40, Int.tmod a0_4 40, Int.tmod a0_5 20, Int.tmod a0_6 12, Int.tmod a0_7 12] : List Int)) 0 a0_0 a0_1 a0_2 a0_3 a0_4 a0_5 a0_6 a0_7 a0_8 a0_9 a0_10) = some r := by first | (rw [hy273]; with_reducible exact H) | (have H2_ := (Option.bind_some _ _).symm.trans H; rw [hy273]; with_reducible exact H2_) | (have H2_ := (Option.bind_some _ _).symm.trans H; with_reducible exact H2_) | with_reducible exact H | (rw [hy273]; exact H) | exact H
    have Ny273 := Aside0.mk hy273
    clear hy273
    obtain ⟨y276, hy276⟩ : ∃ y_ : List Int, y_ = (([Int.tmod a0_2 40, Int.tmod a0_3 40, Int.tmod a0_4 40, Int.tmod a0_5 20, Int.tmod a0_6 12, Int.tmod a0_7 12] : List Int)) := ⟨_, rfl⟩
    replace H : (salvorkeep_Dd_Args.l0 kj4 x5_4 y273 y276 0 a0_0 a0_1 a0_2 a0_3 a0_4 a0_5 a0_6 a0_7 a0_8 a0_9 a0_10) = some r := by first | (rw [hy276]; with_reducible exact H) | (have H2_ := (Option.bind_some _ _).symm.trans H; rw [hy276]; with_reducible exact H2_) | (have H2_ := (Option.bind_some _ _).symm.trans H; with_reducible exact H2_) | with_reducible exact H | (rw [hy276]; exact H) | exact H
    have Ny276 := Aside0.mk hy276
    clear hy276
    have H' := Aside0.mk H
    clear H
    go_wp2_with (first | ((with_reducible refine gate_dst (N := 27) rfl ?_); refine Kd.R_lit Kd.string _ 9 ?hg (N := 27) ?hd (xs := ([(⟨#[105, 98, 115]⟩ : ByteArray), (⟨#[111, 98, 115]⟩ : ByteArray), (⟨#[98, 115]⟩ : ByteArray), (⟨#[99, 98, 115]⟩ : ByteArray), (⟨#[115, 107, 105, 112]⟩ : ByteArray), (⟨#[115, 101, 101, 107]⟩ : ByteArray)] : List ByteArray)) (inner := [.string (⟨#[105, 98, 115]⟩ : ByteArray), .string (⟨#[111, 98, 115]⟩ : ByteArray), .string (⟨#[98, 115]⟩ : ByteArray), .string (⟨#[99, 98, 115]⟩ : ByteArray), .string (⟨#[115, 107, 105, 112]⟩ : ByteArray), .string (⟨#[115, 101, 101, 107]⟩ : ByteArray)]) (ok := fun _ => True) (okp := fun _ => True) ?hr ?hp (fun _ hk => hk) trivial (Below.refl _ _) (Nat.le_refl _) (by simp) ?_; (case hd => rfl); (case hg => rfl); (case hr => first | (go_simp; done) | (go_simp; rfl)); (case hp => exact (Reps.one (show Kd.M Kd.string _ _ _ (⟨#[105, 98, 115]⟩ : ByteArray) [.string (⟨#[105, 98, 115]⟩ : ByteArray)] from rfl) (Reps.one (show Kd.M Kd.string _ _ _ (⟨#[111, 98, 115]⟩ : ByteArray) [.string (⟨#[111, 98, 115]⟩ : ByteArray)] from rfl) (Reps.one (show Kd.M Kd.string _ _ _ (⟨#[98, 115]⟩ : ByteArray) [.string (⟨#[98, 115]⟩ : ByteArray)] from rfl) (Reps.one (show Kd.M Kd.string _ _ _ (⟨#[99, 98, 115]⟩ : ByteArray) [.string (⟨#[99, 98, 115]⟩ : ByteArray)] from rfl) (Reps.one (show Kd.M Kd.string _ _ _ (⟨#[115, 107, 105, 112]⟩ : ByteArray) [.string (⟨#[115, 107, 105, 112]⟩ : ByteArray)] from rfl) (Reps.one (show Kd.M Kd.string _ _ _ (⟨#[115, 101, 101, 107]⟩ : ByteArray) [.string (⟨#[115, 101, 101, 107]⟩ : ByteArray)] from rfl) (Reps.none _ _)))))))); intro v274 w20 ho21 hb hg_ hnew_; clear hg_ hnew_; (first | rw [← Ny273.out] at ho21 | (simp only [Int.reduceToNat] at ho21; rw [← Ny273.out] at ho21)); have n0_ := Aside0.mk (Kd.R_elder' (by (with_reducible repeat (first | apply Kd.R_alloc | apply Kd.R_drewN | apply Kd.R_drew)); exact HO_5.out) (Kd.R_base ho21) hb); have n1_ := Aside0.mk (Kd.R_lower (Kd.R_new' ho21 (Kd.R_lt (by (with_reducible repeat (first | apply Kd.R_alloc | apply Kd.R_drewN | apply Kd.R_drew)); exact HO_5.out))) (below_size (bh_ HB))); have n2_ := bb_ BK261 hb; have n3_ := bs_ HB hb; clear HO_5; clear BK261; clear HB; have HO_5 := n0_; have HO275 := n1_; have BK261 := n2_; have HB := n3_; clear n0_ n1_ n2_ n3_; clear hb ho21; have hcz22_0 : w20.cell? ⟨gb261, 0, none⟩ = some (.int .u8 a0_0) := (blk_cell BK261.out 0).trans rfl; have hcz22_1 : w20.cell? ⟨gb261, 1, none⟩ = some (.int .u8 a0_1) := (blk_cell BK261.out 1).trans rfl; have hcz22_2 : w20.cell? ⟨gb261, 2, none⟩ = some (.int .u8 a0_2) := (blk_cell BK261.out 2).trans rfl; have hcz22_3 : w20.cell? ⟨gb261, 3, none⟩ = some (.int .u8 a0_3) := (blk_cell BK261.out 3).trans rfl; have hcz22_4 : w20.cell? ⟨gb261, 4, none⟩ = some (.int .u8 a0_4) := (blk_cell BK261.out 4).trans rfl; have hcz22_5 : w20.cell? ⟨gb261, 5, none⟩ = some (.int .u8 a0_5) := (blk_cell BK261.out 5).trans rfl; have hcz22_6 : w20.cell? ⟨gb261, 6, none⟩ = some (.int .u8 a0_6) := (blk_cell BK261.out 6).trans rfl; have hcz22_7 : w20.cell? ⟨gb261, 7, none⟩ = some (.int .u8 a0_7) := (blk_cell BK261.out 7).trans rfl; have hcz22_8 : w20.cell? ⟨gb261, 8, none⟩ = some (.int .u8 a0_8) := (blk_cell BK261.out 8).trans rfl; have hcz22_9 : w20.cell? ⟨gb261, 9, none⟩ = some (.int .u8 a0_9) := (blk_cell BK261.out 9).trans rfl; have hcz22_10 : w20.cell? ⟨gb261, 10, none⟩ = some (.int .u32 a0_10) := (blk_cell BK261.out 10).trans rfl; have hfz22_0 := blk_frozen BK261.out 0; have hfz22_1 := blk_frozen BK261.out 1; have hfz22_2 := blk_frozen BK261.out 2; have hfz22_3 := blk_frozen BK261.out 3; have hfz22_4 := blk_frozen BK261.out 4; have hfz22_5 := blk_frozen BK261.out 5; have hfz22_6 := blk_frozen BK261.out 6; have hfz22_7 := blk_frozen BK261.out 7; have hfz22_8 := blk_frozen BK261.out 8; have hfz22_9 := blk_frozen BK261.out 9; have hfz22_10 := blk_frozen BK261.out 10) | ((with_reducible refine gate_dst (N := 46) rfl ?_); refine Kd.R_lit (Kd.int .u8) _ 5 ?hg (N := 46) ?hd (xs := ([Int.tmod a0_2 40, Int.tmod a0_3 40, Int.tmod a0_4 40, Int.tmod a0_5 20, Int.tmod a0_6 12, Int.tmod a0_7 12] : List Int)) (inner := [.int .u8 (Int.tmod a0_2 40), .int .u8 (Int.tmod a0_3 40), .int .u8 (Int.tmod a0_4 40), .int .u8 (Int.tmod a0_5 20), .int .u8 (Int.tmod a0_6 12), .int .u8 (Int.tmod a0_7 12)]) (ok := fun _ => True) (okp := fun _ => True) ?hr ?hp (fun _ hk => hk) trivial (Below.refl _ _) (Nat.le_refl _) (by simp) ?_; (case hd => rfl); (case hg => rfl); (case hr => first | (go_simp; done) | (go_simp; rfl)); (case hp => exact (Reps.one (show Kd.M (Kd.int .u8) _ _ _ (Int.tmod a0_2 40) [.int .u8 (Int.tmod a0_2 40)] from rfl) (Reps.one (show Kd.M (Kd.int .u8) _ _ _ (Int.tmod a0_3 40) [.int .u8 (Int.tmod a0_3 40)] from rfl) (Reps.one (show Kd.M (Kd.int .u8) _ _ _ (Int.tmod a0_4 40) [.int .u8 (Int.tmod a0_4 40)] from rfl) (Reps.one (show Kd.M (Kd.int .u8) _ _ _ (Int.tmod a0_5 20) [.int .u8 (Int.tmod a0_5 20)] from rfl) (Reps.one (show Kd.M (Kd.int .u8) _ _ _ (Int.tmod a0_6 12) [.int .u8 (Int.tmod a0_6 12)] from rfl) (Reps.one (show Kd.M (Kd.int .u8) _ _ _ (Int.tmod a0_7 12) [.int .u8 (Int.tmod a0_7 12)] from rfl) (Reps.none _ _)))))))); intro v277 w23 ho24 hb hg_ hnew_; clear hg_ hnew_; (first | rw [← Ny276.out] at ho24 | (simp only [Int.reduceToNat] at ho24; rw [← Ny276.out] at ho24)); have n0_ := Aside0.mk (Kd.R_below (by (with_reducible repeat (first | apply Kd.R_alloc | apply Kd.R_drewN | apply Kd.R_drew)); exact HO_5.out) hb); have n1_ := Aside0.mk (Kd.R_below (by (with_reducible repeat (first | apply Kd.R_alloc | apply Kd.R_drewN | apply Kd.R_drew)); exact HO275.out) hb); have n2_ := Aside0.mk (Kd.R_lower ho24 (below_size (bh_ HB))); have n3_ := bb_ BK261 hb; have n4_ := bs_ HB hb; clear HO_5; clear HO275; clear BK261; clear HB; have HO_5 := n0_; have HO275 := n1_; have HO278 := n2_; have BK261 := n3_; have HB := n4_; clear n0_ n1_ n2_ n3_ n4_; clear hb ho24))
    go_loopg [5, 8] kj4 (fun kq v5 v8 w' => ∃ (x5_2 : List ByteArray) (x8_2 : Int), v8 = .int .i64 x8_2 ∧ Aside0 (salvorkeep_Dd_Args.l0 kq x5_2 y273 y276 x8_2 a0_0 a0_1 a0_2 a0_3 a0_4 a0_5 a0_6 a0_7 a0_8 a0_9 a0_10 = some r) ∧ Aside0 (kq ≤ kj4) ∧ Aside0 (Kd.R Kd.string 9 w' w.heap.size (fun k_ => some k_ ≠ (v274 : Value).ownBlock) v5 x5_2) ∧ Aside0 (Kd.R Kd.string 9 w' w.heap.size (fun k_ => some k_ ≠ (v5 : Value).ownBlock) v274 y273) ∧ Aside0 (Kd.R (Kd.int .u8) 5 w' w.heap.size (fun _ => True) v277 y276) ∧ Aside0 (w'.heap[gb261]? = some (.cells #[.int .u8 a0_0, .int .u8 a0_1, .int .u8 a0_2, .int .u8 a0_3, .int .u8 a0_4, .int .u8 a0_5, .int .u8 a0_6, .int .u8 a0_7, .int .u8 a0_8, .int .u8 a0_9, .int .u32 a0_10] 32 (0, 0))) ∧ Aside0 (Below w.heap.size w w'))
    case atStart => exact ⟨(x5_4), (0), (by first | rfl | (simp; done) | (simp [*]; done)), H', ⟨Nat.le_refl _⟩, ⟨by (with_reducible repeat (first | apply Kd.R_alloc | apply Kd.R_drewN | apply Kd.R_drew)); exact Kd.R_mono HO_5.out (fun _ hk => hk.2)⟩, ⟨by (with_reducible repeat (first | apply Kd.R_alloc | apply Kd.R_drewN | apply Kd.R_drew)); exact Kd.R_mono HO275.out (fun _ hk => hk.2)⟩, ⟨by (with_reducible repeat (first | apply Kd.R_alloc | apply Kd.R_drewN | apply Kd.R_drew)); exact HO278.out⟩, ⟨bq_ BK261⟩, ⟨bh_ HB⟩⟩
    case round =>
     clear H'
     try clear c1
     try clear p2
     try clear c4
     try clear c4b0
     try clear c4b1
     try clear c4b2
     try clear c7
     try clear c11
     try clear c12
     try clear c15
     try clear c15b0
     try clear c15b1
     try clear c15b2
     try clear c16
     try clear hcz17_0 hcz17_1 hcz17_10 hcz17_2 hcz17_3 hcz17_4 hcz17_5 hcz17_6 hcz17_7 hcz17_8 hcz17_9
     try clear hcz22_0 hcz22_1 hcz22_10 hcz22_2 hcz22_3 hcz22_4 hcz22_5 hcz22_6 hcz22_7 hcz22_8 hcz22_9
     try clear hcz7_0 hcz7_1 hcz7_10 hcz7_2 hcz7_3 hcz7_4 hcz7_5 hcz7_6 hcz7_7 hcz7_8 hcz7_9
     try clear hfz17_0 hfz17_1 hfz17_10 hfz17_2 hfz17_3 hfz17_4 hfz17_5 hfz17_6 hfz17_7 hfz17_8 hfz17_9
     try clear hfz22_0 hfz22_1 hfz22_10 hfz22_2 hfz22_3 hfz22_4 hfz22_5 hfz22_6 hfz22_7 hfz22_8 hfz22_9
     try clear hfz7_0 hfz7_1 hfz7_10 hfz7_2 hfz7_3 hfz7_4 hfz7_5 hfz7_6 hfz7_7 hfz7_8 hfz7_9
     try clear p2
     obtain ⟨x5_2, x8_2, rfl, HA, HK2, HO_5, HO_6, HO_7, BK261, HB⟩ := hrel
     cases gk with
     | zero => exact absurd HA.out (by simp [salvorkeep_Dd_Args.l0])
     | succ k2 =>
      have H := HA.out
      clear HA
      simp only [salvorkeep_Dd_Args.l0] at H
      by_cases c25 : x8_2 < (y273.length : Int)
      ·rw [if_pos c25] at H
       have c25b0 : decide (x8_2 < (y273.length : Int)) = true := decide_eq_true c25
       clear c25
       by_cases c26 : 0 ≤ x8_2
       ·rw [if_pos c26] at H
        have c26b0 : decide (0 ≤ x8_2) = true := decide_eq_true c26
        clear c26
        by_cases c27 : x8_2 < (y276.length : Int)
        ·rw [if_pos c27] at H
         have c27b0 : decide (x8_2 < (y276.length : Int)) = true := decide_eq_true c27
         clear c27
         by_cases c28 : (rd y276 x8_2) > 0
         ·rw [if_pos c28] at H
          have c28b0 : decide (0 < (rd y276 x8_2)) = true := decide_eq_true c28
          clear c28
          by_cases c29 : (rdOf ByteArray.empty y273 x8_2).size + 1 ≤ 9223372036854775807
          ·rw [if_pos c29] at H
           have c29b0 := eq_true c29
           have c29b1 : decide ((rdOf ByteArray.empty y273 x8_2).size + 1 ≤ 9223372036854775807) = true := decide_eq_true c29
           try have c29b2 : (9223372036854775807 < (rdOf ByteArray.empty y273 x8_2).size + 1) = False := eq_false (Nat.not_lt.2 c29)
           replace H := Option.bind_eq_some_iff.mp H
           obtain ⟨t282, A300, H⟩ := H
           replace H : (if ((rdOf ByteArray.empty y273 x8_2) ++ (⟨#[61]⟩ : ByteArray)).size + t282.size ≤ 9223372036854775807 then (if x5_2.length < 8796093022208 then (salvorkeep_Dd_Args.l0 k2 (x5_2 ++ [((rdOf ByteArray.empty y273 x8_2) ++ (⟨#[61]⟩ : ByteArray)) ++ t282]) y273 y276 (wrap64 (x8_2 + 1)) a0_0 a0_1 a0_2 a0_3 a0_4 a0_5 a0_6 a0_7 a0_8 a0_9 a0_10) else (none)) else (none)) = some r := H
           have A30 := Aside0.mk A300
           clear A300
           by_cases c31 : ((rdOf ByteArray.empty y273 x8_2) ++ (⟨#[61]⟩ : ByteArray)).size + t282.size ≤ 9223372036854775807
           ·rw [if_pos c31] at H
            have c31b0 := eq_true c31
            have c31b1 : decide (((rdOf ByteArray.empty y273 x8_2) ++ (⟨#[61]⟩ : ByteArray)).size + t282.size ≤ 9223372036854775807) = true := decide_eq_true c31
            try have c31b2 : (9223372036854775807 < ((rdOf ByteArray.empty y273 x8_2) ++ (⟨#[61]⟩ : ByteArray)).size + t282.size) = False := eq_false (Nat.not_lt.2 c31)
            try have c31b3 : (9223372036854775807 < (rdOf ByteArray.empty y273 x8_2).size + 1 + t282.size) = False := eq_false (Nat.not_lt.2 (by have h_ := c31; simp only [ByteArray.size_append] at h_; exact h_))
            by_cases c32 : x5_2.length < 8796093022208
            ·rw [if_pos c32] at H
             have LMc32 := Aside0.mk c32
             clear c32
             obtain ⟨y283, hy283⟩ : ∃ y_ : List ByteArray, y_ = (x5_2 ++ [((rdOf ByteArray.empty y273 x8_2) ++ (⟨#[61]⟩ : ByteArray)) ++ t282]) := ⟨_, rfl⟩
             replace H : (salvorkeep_Dd_Args.l0 k2 y283 y273 y276 (wrap64 (x8_2 + 1)) a0_0 a0_1 a0_2 a0_3 a0_4 a0_5 a0_6 a0_7 a0_8 a0_9 a0_10) = some r := by first | (rw [hy283]; with_reducible exact H) | (have H2_ := (Option.bind_some _ _).symm.trans H; rw [hy283]; with_reducible exact H2_) | (have H2_ := (Option.bind_some _ _).symm.trans H; with_reducible exact H2_) | with_reducible exact H | (rw [hy283]; exact H) | exact H
             have Ny283 := Aside0.mk hy283
             clear hy283
             have H' := Aside0.mk H
             clear H
             obtain ⟨Ao33, co33, eo33⟩ := Kd.R_slice HO_6.out
             subst eo33
             obtain ⟨Ao34, co34, eo34⟩ := Kd.R_slice HO_7.out
             subst eo34
             have p279 : 0 ≤ (x8_2 : Int) := of_decide_eq_true (by first | (with_reducible assumption) | assumption)
             have q279 : x8_2 < (y276.length : Int) := of_decide_eq_true (by first | (with_reducible assumption) | assumption)
             obtain ⟨ad279, e279, hx279_0⟩ := Kd.at_int (Kd.R_reads' HO_7.out).2.2 x8_2 p279 q279
             cases e279
             replace p279 := eq_true p279
             replace q279 := eq_true q279
             try go_wp2
             replace HO_5 := Aside0.mk (Kd.R_drew HO_5.out)
             replace HO_6 := Aside0.mk (Kd.R_drew HO_6.out)
             replace HO_7 := Aside0.mk (Kd.R_drew HO_7.out)
             replace BK261 := Aside0.mk (blk_drew BK261.out)
             replace HB := Aside0.mk (below_drew1 HB.out)
             have p280 : 0 ≤ (x8_2 : Int) := of_decide_eq_true (by first | (with_reducible assumption) | assumption)
             have q280 : x8_2 < (y273.length : Int) := of_decide_eq_true (by first | (with_reducible assumption) | assumption)
             obtain ⟨ad280, e280, hx280_0⟩ := Kd.at_string (Kd.R_reads' HO_6.out).2.2 x8_2 p280 q280
             cases e280
             replace p280 := eq_true p280
             replace q280 := eq_true q280
             have p281 : 0 ≤ (x8_2 : Int) := of_decide_eq_true (by first | (with_reducible assumption) | assumption)
             have q281 : x8_2 < (y276.length : Int) := of_decide_eq_true (by first | (with_reducible assumption) | assumption)
             obtain ⟨ad281, e281, hx281_0⟩ := Kd.at_int (Kd.R_reads' HO_7.out).2.2 x8_2 p281 q281
             obtain rfl : ad279 = ad281 := (by injection e281)
             replace p281 := eq_true p281
             replace q281 := eq_true q281
             refine start_ (n := 16) (S := fun w' => w'.cell? (ad280.add (x8_2).toNat) = some (.string (rdOf ByteArray.empty y273 x8_2)) ∧ w'.cell? (ad279.add (x8_2).toNat) = some (.int .u8 (rd y276 x8_2))) (ds := [13, 14]) #[false, false, false, false, false, false, false, false, false, false, false, false, false, false, false, false] (by kernel_rfl) rfl rfl ⟨hx280_0, hx281_0⟩ (fun hHeld => ?_); refine with_tabW salvorkeep_Dd_Args.tab11 salvorkeep_Dd_Args.bits11 (fun HT_ HW_ => ?_)
             generalize wr.drew = w35 at HO_5 HO_6 HO_7 BK261 HB hx280_0 hx281_0 hHeld ⊢
             refine pu_ 0 58 (lb_ 16 1) rfl rfl (ao_ HT_) ?_
             refine pu_ 1 59 (lb_ 16 3) rfl rfl (ao_ HT_) ?_
             refine pu_ 2 60 (lb_ 16 7) rfl rfl (ao_ HT_) ?_
             refine pu_ 3 61 (lb_ 16 15) rfl rfl (ao_ HT_) ?_
             refine pu_ 6 64 (lb_ 16 79) rfl rfl (ao_ HT_) ?_
             refine pu_ 7 65 (lb_ 16 207) rfl rfl (ao_ HT_) ?_
             refine pu_ 8 66 (lb_ 16 463) rfl rfl (ao_ HT_) ?_
             refine tk_ 4 62 (lb_ 16 479) rfl rfl (take_ofW HT_.out HW_.out (by kernel_rfl)) hHeld ?_
             refine pu_ 5 63 (lb_ 16 511) rfl rfl (ao_ HT_) ?_
             refine tk_ 9 67 (lb_ 16 1023) rfl rfl (take_ofW HT_.out HW_.out (by kernel_rfl)) hHeld ?_
             refine pu_ 10 68 (lb_ 16 2047) rfl rfl (ao_ HT_) ?_
             refine one_ (i := 11) (N := some 69) #[true, true, true, true, true, true, true, true, true, true, true, true, false, false, false, false] rfl rfl (one_of HT_.out (by kernel_rfl)) (by decide) (fun K hK => ?_)
             refine gq_ Tryd.func17 (by kernel_rfl) rfl #[.int .i64 (wrap64 (rd y276 x8_2))] (by rfl) rfl rfl ?_
             with_reducible refine (salvorkeep_Num.calls k2 (wrap64 (rd y276 x8_2)) t282 _ A30.out).mono ?_
             rintro e w' ⟨rfl, ⟨nd, rfl⟩⟩
             refine ⟨_, rfl, ?_⟩
             refine hK.out _ _ ⟨hHeld.1, hHeld.2⟩ (fun hHeld => ?_)
             clear hK K
             refine nm_ 69 ?_
             refine pu_ 12 70 (lb_ 16 8191) rfl rfl (ao_ HT_) ?_
             refine last_ (i := 13) (N := some 71) #[true, true, true, true, true, true, true, true, true, true, true, true, true, true, false, false] rfl rfl (one_of HT_.out (by kernel_rfl)) (by decide) (fun K hK => ?_)
             refine value_ (w1 := ?_) (v := ?_) (by rfl) rfl ?_ ?_
             rotate_left 2
             ·go_simp
              constructor
              ·rfl
              ·rfl
             refine hK.out _ _ ?_
             clear hK K
             refine nm_ 71 ?_
             refine last_ (i := 14) (N := some 72) #[true, true, true, true, true, true, true, true, true, true, true, true, true, true, true, false] rfl rfl (one_of HT_.out (by kernel_rfl)) (by decide) (fun K hK => ?_)
             refine Kd.R_append_step Kd.string (w0 := w) w.heap.size (by rfl) (.tmp 58) (.tmp 71) 33 9 (.string ⟨#[]⟩) 16 rfl Tryd.underlying33 info9 rfl (by decide) (by omega) u5 x5_2 (((rdOf ByteArray.empty y273 x8_2) ++ (⟨#[61]⟩ : ByteArray)) ++ t282) [.string (((rdOf ByteArray.empty y273 x8_2) ++ (⟨#[61]⟩ : ByteArray)) ++ t282)] (fun k_ => some k_ ≠ (.slice (some ad280) y273.length co33 : Value).ownBlock) (fun _ => False) rfl rfl ?aP (fun _ hk => hk.elim) ?aF ?aO ?aB ?aS ?aL ?_
             (case aP => exact rfl)
             (case aB => exact (bh_ HB))
             (case aF => exact (fun k_ hk => Kd.fresh' (Kd.R_lt (by (with_reducible repeat (first | apply Kd.R_alloc | apply Kd.R_drewN | apply Kd.R_drew)); exact HO_6.out)) k_ hk))
             (case aO => exact (by (with_reducible repeat (first | apply Kd.R_alloc | apply Kd.R_drewN | apply Kd.R_drew)); exact HO_5.out))
             (case aS => exact (below_size (bh_ HB)))
             (case aL => have := LMc32.out; omega)
             intro v284 w36 ho hb hg hat
             rw [← Ny283.out] at ho
             have n0_ := Aside0.mk (Kd.R_after (ok := (fun _ => True)) (by (with_reducible repeat (first | apply Kd.R_alloc | apply Kd.R_drewN | apply Kd.R_drew)); exact Kd.R_mono HO_6.out (fun _ hk => ⟨trivial, hk⟩)) hg hat)
             have n1_ := Aside0.mk (Kd.R_over' (by (with_reducible repeat (first | apply Kd.R_alloc | apply Kd.R_drewN | apply Kd.R_drew)); exact HO_7.out) (Kd.R_typed (by (with_reducible repeat (first | apply Kd.R_alloc | apply Kd.R_drewN | apply Kd.R_drew)); exact HO_5.out)) (by decide) hg)
             have n2_ := Aside0.mk (blk_grown (g := gb261) (o := .cells #[.int .u8 a0_0, .int .u8 a0_1, .int .u8 a0_2, .int .u8 a0_3, .int .u8 a0_4, .int .u8 a0_5, .int .u8 a0_6, .int .u8 a0_7, .int .u8 a0_8, .int .u8 a0_9, .int .u32 a0_10] 32 (0, 0)) (bq_ BK261) hg (Kd.R_ne HO_5.out BK261.out (by decide)))
             have n3_ := Aside0.mk (hb)
             have n4_ := Aside0.mk (ho)
             clear HO_6
             clear HO_7
             clear BK261
             clear HB
             clear HO_5
             have HO_6 := n0_
             have HO_7 := n1_
             have BK261 := n2_
             have HB := n3_
             have HO285 := n4_
             clear n0_ n1_ n2_ n3_ n4_
             clear ho hb hg hat
             refine hK.out _ _ ?_
             clear hK K
             refine nm_ 72 ?_
             refine pu_ 15 5 (lb_ 16 65535) rfl rfl (ao_ HT_) ?_
             refine done_ (done_of HT_.out (by kernel_rfl)) ?_
             try go_wp2
             go_roundg k2
             case measure => have := HJ4.out; have := HK2.out; omega
             case rel => exact ⟨(y283), (wrap64 (x8_2 + 1)), (by first | rfl | (simp; done) | (simp [*]; done)), H', ⟨by have := HJ4.out; have := HK2.out; omega⟩, ⟨by (with_reducible repeat (first | apply Kd.R_alloc | apply Kd.R_drewN | apply Kd.R_drew)); exact HO285.out⟩, ⟨by (with_reducible repeat (first | apply Kd.R_alloc | apply Kd.R_drewN | apply Kd.R_drew)); exact Kd.R_mono HO_6.out (fun _ hk => hk.2)⟩, ⟨by (with_reducible repeat (first | apply Kd.R_alloc | apply Kd.R_drewN | apply Kd.R_drew)); exact HO_7.out⟩, ⟨bq_ BK261⟩, ⟨bh_ HB⟩⟩
            ·rw [if_neg c32] at H
             exact absurd H (by simp)
           ·rw [if_neg c31] at H
            exact absurd H (by simp)
          ·rw [if_neg c29] at H
           exact absurd H (by simp)
         ·rw [if_neg c28] at H
          have c28b0 : decide (0 < (rd y276 x8_2)) = false := decide_eq_false c28
          clear c28
          have H' := Aside0.mk H
          clear H
          obtain ⟨Ao37, co37, eo37⟩ := Kd.R_slice HO_6.out
          subst eo37
          obtain ⟨Ao38, co38, eo38⟩ := Kd.R_slice HO_7.out
          subst eo38
          have p279 : 0 ≤ (x8_2 : Int) := of_decide_eq_true (by first | (with_reducible assumption) | assumption)
          have q279 : x8_2 < (y276.length : Int) := of_decide_eq_true (by first | (with_reducible assumption) | assumption)
          obtain ⟨ad279, e279, hx279_0⟩ := Kd.at_int (Kd.R_reads' HO_7.out).2.2 x8_2 p279 q279
          cases e279
          replace p279 := eq_true p279
          replace q279 := eq_true q279
          go_wp2
          go_roundg k2
          case measure => have := HJ4.out; have := HK2.out; omega
          case rel => exact ⟨(x5_2), (wrap64 (x8_2 + 1)), (by first | rfl | (simp; done) | (simp [*]; done)), H', ⟨by have := HJ4.out; have := HK2.out; omega⟩, ⟨by (with_reducible repeat (first | apply Kd.R_alloc | apply Kd.R_drewN | apply Kd.R_drew)); exact HO_5.out⟩, ⟨by (with_reducible repeat (first | apply Kd.R_alloc | apply Kd.R_drewN | apply Kd.R_drew)); exact HO_6.out⟩, ⟨by (with_reducible repeat (first | apply Kd.R_alloc | apply Kd.R_drewN | apply Kd.R_drew)); exact HO_7.out⟩, ⟨bq_ BK261⟩, ⟨bh_ HB⟩⟩
        ·rw [if_neg c27] at H
         exact absurd H (by simp)
       ·rw [if_neg c26] at H
        exact absurd H (by simp)
      ·rw [if_neg c25] at H
       have c25b0 : decide (x8_2 < (y273.length : Int)) = false := decide_eq_false c25
       clear c25
       have HC39 := Aside0.mk H
       clear H
       obtain ⟨Ao40, co40, eo40⟩ := Kd.R_slice HO_6.out
       subst eo40
       have hcz41_0 : wr.cell? ⟨gb261, 0, none⟩ = some (.int .u8 a0_0) := (blk_cell BK261.out 0).trans rfl
       have hcz41_1 : wr.cell? ⟨gb261, 1, none⟩ = some (.int .u8 a0_1) := (blk_cell BK261.out 1).trans rfl
       have hcz41_2 : wr.cell? ⟨gb261, 2, none⟩ = some (.int .u8 a0_2) := (blk_cell BK261.out 2).trans rfl
       have hcz41_3 : wr.cell? ⟨gb261, 3, none⟩ = some (.int .u8 a0_3) := (blk_cell BK261.out 3).trans rfl
       have hcz41_4 : wr.cell? ⟨gb261, 4, none⟩ = some (.int .u8 a0_4) := (blk_cell BK261.out 4).trans rfl
       have hcz41_5 : wr.cell? ⟨gb261, 5, none⟩ = some (.int .u8 a0_5) := (blk_cell BK261.out 5).trans rfl
       have hcz41_6 : wr.cell? ⟨gb261, 6, none⟩ = some (.int .u8 a0_6) := (blk_cell BK261.out 6).trans rfl
       have hcz41_7 : wr.cell? ⟨gb261, 7, none⟩ = some (.int .u8 a0_7) := (blk_cell BK261.out 7).trans rfl
       have hcz41_8 : wr.cell? ⟨gb261, 8, none⟩ = some (.int .u8 a0_8) := (blk_cell BK261.out 8).trans rfl
       have hcz41_9 : wr.cell? ⟨gb261, 9, none⟩ = some (.int .u8 a0_9) := (blk_cell BK261.out 9).trans rfl
       have hcz41_10 : wr.cell? ⟨gb261, 10, none⟩ = some (.int .u32 a0_10) := (blk_cell BK261.out 10).trans rfl
       have hfz41_0 := blk_frozen BK261.out 0
       have hfz41_1 := blk_frozen BK261.out 1
       have hfz41_2 := blk_frozen BK261.out 2
       have hfz41_3 := blk_frozen BK261.out 3
       have hfz41_4 := blk_frozen BK261.out 4
       have hfz41_5 := blk_frozen BK261.out 5
       have hfz41_6 := blk_frozen BK261.out 6
       have hfz41_7 := blk_frozen BK261.out 7
       have hfz41_8 := blk_frozen BK261.out 8
       have hfz41_9 := blk_frozen BK261.out 9
       have hfz41_10 := blk_frozen BK261.out 10
       go_upto_if 76 with (fail)
       go_cut [5] (fun v5 wc => ∃ (kq : Nat) (x5_38 : List ByteArray), Aside0 (salvorkeep_Dd_Args.j2 kq x5_38 a0_0 a0_1 a0_2 a0_3 a0_4 a0_5 a0_6 a0_7 a0_8 a0_9 a0_10 = some r) ∧ Aside0 (kq ≤ k2) ∧ Aside0 (Kd.R Kd.string 9 wc w.heap.size (fun _ => True) v5 x5_38) ∧ Aside0 (wc.heap[gb261]? = some (.cells #[.int .u8 a0_0, .int .u8 a0_1, .int .u8 a0_2, .int .u8 a0_3, .int .u8 a0_4, .int .u8 a0_5, .int .u8 a0_6, .int .u8 a0_7, .int .u8 a0_8, .int .u8 a0_9, .int .u32 a0_10] 32 (0, 0))) ∧ Aside0 (Below w.heap.size w wc))
       case first =>
        have H := HC39.out
        clear HC39
        by_cases c42 : (Go.bits .and .u8 a0_9 1) = 1
        ·rw [if_pos c42] at H
         have c42b0 : ((Go.bits .and .u8 a0_9 1) == 1) = true := beq_iff_eq.mpr c42
         have c42b1 : ((Go.bits .and .u8 a0_9 1) != 1) = false := bne_eq_false_iff_eq.mpr c42
         clear c42
         (first | rw [c42b0] | (simp only [i64_w, i32_w]; rw [c42b0]) | skip)
         replace H := Option.bind_eq_some_iff.mp H
         obtain ⟨t286, A430, H⟩ := H
         replace H : (if 6 + t286.size ≤ 9223372036854775807 then (if x5_2.length < 8796093022208 then (salvorkeep_Dd_Args.j2 k2 (x5_2 ++ [(⟨#[99, 111, 117, 110, 116, 61]⟩ : ByteArray) ++ t286]) a0_0 a0_1 a0_2 a0_3 a0_4 a0_5 a0_6 a0_7 a0_8 a0_9 a0_10) else (none)) else (none)) = some r := H
         have A43 := Aside0.mk A430
         clear A430
         by_cases c44 : 6 + t286.size ≤ 9223372036854775807
         ·rw [if_pos c44] at H
          have c44b0 := eq_true c44
          have c44b1 : decide (6 + t286.size ≤ 9223372036854775807) = true := decide_eq_true c44
          try have c44b2 : (9223372036854775807 < 6 + t286.size) = False := eq_false (Nat.not_lt.2 c44)
          by_cases c45 : x5_2.length < 8796093022208
          ·rw [if_pos c45] at H
           have LMc45 := Aside0.mk c45
           clear c45
           obtain ⟨y287, hy287⟩ : ∃ y_ : List ByteArray, y_ = (x5_2 ++ [(⟨#[99, 111, 117, 110, 116, 61]⟩ : ByteArray) ++ t286]) := ⟨_, rfl⟩
           replace H : (salvorkeep_Dd_Args.j2 k2 y287 a0_0 a0_1 a0_2 a0_3 a0_4 a0_5 a0_6 a0_7 a0_8 a0_9 a0_10) = some r := by first | (rw [hy287]; with_reducible exact H) | (have H2_ := (Option.bind_some _ _).symm.trans H; rw [hy287]; with_reducible exact H2_) | (have H2_ := (Option.bind_some _ _).symm.trans H; with_reducible exact H2_) | with_reducible exact H | (rw [hy287]; exact H) | exact H
           have Ny287 := Aside0.mk hy287
           clear hy287
           have H' := Aside0.mk H
           clear H
           have hcz46_0 : wr.cell? ⟨gb261, 0, none⟩ = some (.int .u8 a0_0) := (blk_cell BK261.out 0).trans rfl
           have hcz46_1 : wr.cell? ⟨gb261, 1, none⟩ = some (.int .u8 a0_1) := (blk_cell BK261.out 1).trans rfl
           have hcz46_2 : wr.cell? ⟨gb261, 2, none⟩ = some (.int .u8 a0_2) := (blk_cell BK261.out 2).trans rfl
           have hcz46_3 : wr.cell? ⟨gb261, 3, none⟩ = some (.int .u8 a0_3) := (blk_cell BK261.out 3).trans rfl
           have hcz46_4 : wr.cell? ⟨gb261, 4, none⟩ = some (.int .u8 a0_4) := (blk_cell BK261.out 4).trans rfl
           have hcz46_5 : wr.cell? ⟨gb261, 5, none⟩ = some (.int .u8 a0_5) := (blk_cell BK261.out 5).trans rfl
           have hcz46_6 : wr.cell? ⟨gb261, 6, none⟩ = some (.int .u8 a0_6) := (blk_cell BK261.out 6).trans rfl
           have hcz46_7 : wr.cell? ⟨gb261, 7, none⟩ = some (.int .u8 a0_7) := (blk_cell BK261.out 7).trans rfl
           have hcz46_8 : wr.cell? ⟨gb261, 8, none⟩ = some (.int .u8 a0_8) := (blk_cell BK261.out 8).trans rfl
           have hcz46_9 : wr.cell? ⟨gb261, 9, none⟩ = some (.int .u8 a0_9) := (blk_cell BK261.out 9).trans rfl
           have hcz46_10 : wr.cell? ⟨gb261, 10, none⟩ = some (.int .u32 a0_10) := (blk_cell BK261.out 10).trans rfl
           have hfz46_0 := blk_frozen BK261.out 0
           have hfz46_1 := blk_frozen BK261.out 1
           have hfz46_2 := blk_frozen BK261.out 2
           have hfz46_3 := blk_frozen BK261.out 3
           have hfz46_4 := blk_frozen BK261.out 4
           have hfz46_5 := blk_frozen BK261.out 5
           have hfz46_6 := blk_frozen BK261.out 6
           have hfz46_7 := blk_frozen BK261.out 7
           have hfz46_8 := blk_frozen BK261.out 8
           have hfz46_9 := blk_frozen BK261.out 9
           have hfz46_10 := blk_frozen BK261.out 10
           go_wp2_with (first | ((with_reducible refine gate_callee (f := 17) rfl ?_); refine gl_ (some 82) rfl rfl Tryd.func17 (by kernel_rfl) rfl #[.int .i64 (wrap64 (Int.tmod a0_8 20))] rfl ?_; (with_reducible refine (salvorkeep_Num.calls k2 (wrap64 (Int.tmod a0_8 20)) t286 _ A43.out).mono ?_); rintro e w' ⟨rfl, ⟨nd, rfl⟩⟩; refine ⟨_, rfl, ?_⟩) | ((with_reducible refine gate_builtin (b := .append) (xs := #[.tmp 77, .tmp 84]) rfl ?_); at_builtin; refine Kd.R_append Kd.string (w0 := w) w.heap.size rfl (.tmp 77) (.tmp 84) 33 9 (.string ⟨#[]⟩) 16 rfl Tryd.underlying33 info9 rfl (by decide) (by omega) u5 x5_2 ((⟨#[99, 111, 117, 110, 116, 61]⟩ : ByteArray) ++ t286) [.string ((⟨#[99, 111, 117, 110, 116, 61]⟩ : ByteArray) ++ t286)] (fun k_ => some k_ ≠ (.slice Ao40 y273.length co40 : Value).ownBlock) (fun _ => False) rfl rfl ?aP (fun _ hk => hk.elim) ?aF ?aO ?aB ?aS ?aL ?_; (case aP => exact rfl); (case aB => exact (bh_ HB)); (case aF => exact (fun k_ hk => Kd.fresh' (Kd.R_lt (by (with_reducible repeat (first | apply Kd.R_alloc | apply Kd.R_drewN | apply Kd.R_drew)); exact HO_6.out)) k_ hk)); (case aO => exact (by (with_reducible repeat (first | apply Kd.R_alloc | apply Kd.R_drewN | apply Kd.R_drew)); exact HO_5.out)); (case aS => exact (below_size (bh_ HB))); (case aL => have := LMc45.out; omega); intro v288 w47 ho hb hg hat; rw [← Ny287.out] at ho; have n0_ := Aside0.mk (Kd.R_after (ok := (fun _ => True)) (by (with_reducible repeat (first | apply Kd.R_alloc | apply Kd.R_drewN | apply Kd.R_drew)); exact Kd.R_mono HO_6.out (fun _ hk => ⟨trivial, hk⟩)) hg hat); have n1_ := Aside0.mk (Kd.R_over' (by (with_reducible repeat (first | apply Kd.R_alloc | apply Kd.R_drewN | apply Kd.R_drew)); exact HO_7.out) (Kd.R_typed (by (with_reducible repeat (first | apply Kd.R_alloc | apply Kd.R_drewN | apply Kd.R_drew)); exact HO_5.out)) (by decide) hg); have n2_ := Aside0.mk (blk_grown (g := gb261) (o := .cells #[.int .u8 a0_0, .int .u8 a0_1, .int .u8 a0_2, .int .u8 a0_3, .int .u8 a0_4, .int .u8 a0_5, .int .u8 a0_6, .int .u8 a0_7, .int .u8 a0_8, .int .u8 a0_9, .int .u32 a0_10] 32 (0, 0)) (bq_ BK261) hg (Kd.R_ne HO_5.out BK261.out (by decide))); have n3_ := Aside0.mk (hb); have n4_ := Aside0.mk (ho); clear HO_6; clear HO_7; clear BK261; clear HB; clear HO_5; have HO_6 := n0_; have HO_7 := n1_; have BK261 := n2_; have HB := n3_; have HO289 := n4_; clear n0_ n1_ n2_ n3_ n4_; clear ho hb hg hat))
           go_meet
           case rel => exact ⟨_, (y287), H', ⟨by have := HJ4.out; have := HK2.out; first | omega | exact Nat.le_refl _⟩, ⟨by (with_reducible repeat (first | apply Kd.R_alloc | apply Kd.R_drewN | apply Kd.R_drew)); exact Kd.R_mono HO289.out (fun _ hk => trivial)⟩, ⟨bq_ BK261⟩, ⟨bh_ HB⟩⟩
          ·rw [if_neg c45] at H
           exact absurd H (by simp)
         ·rw [if_neg c44] at H
          exact absurd H (by simp)
        ·rw [if_neg c42] at H
         have c42b0 : ((Go.bits .and .u8 a0_9 1) == 1) = false := beq_eq_false_iff_ne.mpr c42
         have c42b1 : ((Go.bits .and .u8 a0_9 1) != 1) = true := bne_iff_ne.mpr c42
         (first | rw [c42b0] | (simp only [i64_w, i32_w]; rw [c42b0]) | skip)
         have H' := Aside0.mk H
         clear H
         go_wp2
         go_meet
         case rel => exact ⟨_, (x5_2), H', ⟨by have := HJ4.out; have := HK2.out; first | omega | exact Nat.le_refl _⟩, ⟨by (with_reducible repeat (first | apply Kd.R_alloc | apply Kd.R_drewN | apply Kd.R_drew)); exact Kd.R_mono HO_5.out (fun _ hk => trivial)⟩, ⟨bq_ BK261⟩, ⟨bh_ HB⟩⟩
       case rest =>
        clear HC39
        try clear c1
        try clear c2
        try clear p2
        try clear q2
        try clear hx2
        try clear c3
        try clear c4
        try clear c4b0
        try clear c4b1
        try clear c4b2
        try clear p6
        try clear c7
        try clear c11
        try clear c12
        try clear c15
        try clear c15b0
        try clear c15b1
        try clear c15b2
        try clear c16
        try clear c17
        try clear c25
        try clear c25b0
        try clear c26
        try clear c26b0
        try clear c27
        try clear c27b0
        try clear p27
        try clear q27
        try clear hx27
        try clear c28
        try clear c28b0
        try clear p28
        try clear q28
        try clear hx28
        try clear c29
        try clear c29b0
        try clear c29b1
        try clear c29b2
        try clear c31
        try clear c31b0
        try clear c31b1
        try clear c31b2
        try clear c32
        try clear c42
        try clear c42b0
        try clear c42b1
        try clear c44
        try clear c44b0
        try clear c44b1
        try clear c44b2
        try clear c45
        try clear hcz17_0 hcz17_1 hcz17_10 hcz17_2 hcz17_3 hcz17_4 hcz17_5 hcz17_6 hcz17_7 hcz17_8 hcz17_9
        try clear hcz22_0 hcz22_1 hcz22_10 hcz22_2 hcz22_3 hcz22_4 hcz22_5 hcz22_6 hcz22_7 hcz22_8 hcz22_9
        try clear hcz41_0 hcz41_1 hcz41_10 hcz41_2 hcz41_3 hcz41_4 hcz41_5 hcz41_6 hcz41_7 hcz41_8 hcz41_9
        try clear hcz46_0 hcz46_1 hcz46_10 hcz46_2 hcz46_3 hcz46_4 hcz46_5 hcz46_6 hcz46_7 hcz46_8 hcz46_9
        try clear hcz7_0 hcz7_1 hcz7_10 hcz7_2 hcz7_3 hcz7_4 hcz7_5 hcz7_6 hcz7_7 hcz7_8 hcz7_9
        try clear hfz17_0 hfz17_1 hfz17_10 hfz17_2 hfz17_3 hfz17_4 hfz17_5 hfz17_6 hfz17_7 hfz17_8 hfz17_9
        try clear hfz22_0 hfz22_1 hfz22_10 hfz22_2 hfz22_3 hfz22_4 hfz22_5 hfz22_6 hfz22_7 hfz22_8 hfz22_9
        try clear hfz41_0 hfz41_1 hfz41_10 hfz41_2 hfz41_3 hfz41_4 hfz41_5 hfz41_6 hfz41_7 hfz41_8 hfz41_9
        try clear hfz46_0 hfz46_1 hfz46_10 hfz46_2 hfz46_3 hfz46_4 hfz46_5 hfz46_6 hfz46_7 hfz46_8 hfz46_9
        try clear hfz7_0 hfz7_1 hfz7_10 hfz7_2 hfz7_3 hfz7_4 hfz7_5 hfz7_6 hfz7_7 hfz7_8 hfz7_9
        try clear hx279_0
        try clear hx280_0
        try clear hx281_0
        try clear p2
        try clear p279
        try clear p280
        try clear p281
        try clear q279
        try clear q280
        try clear q281
        obtain ⟨kq, x5_38, HA, HJ38, HO_5, BK261, HB⟩ := hcut
        cases kq with
        | zero => exact absurd HA.out (by simp [salvorkeep_Dd_Args.j2])
        | succ kj38 =>
         have H := HA.out
         clear HA
         simp only [salvorkeep_Dd_Args.j2] at H
         have HC48 := Aside0.mk H
         clear H
         have hcz49_0 : wc.cell? ⟨gb261, 0, none⟩ = some (.int .u8 a0_0) := (blk_cell BK261.out 0).trans rfl
         have hcz49_1 : wc.cell? ⟨gb261, 1, none⟩ = some (.int .u8 a0_1) := (blk_cell BK261.out 1).trans rfl
         have hcz49_2 : wc.cell? ⟨gb261, 2, none⟩ = some (.int .u8 a0_2) := (blk_cell BK261.out 2).trans rfl
         have hcz49_3 : wc.cell? ⟨gb261, 3, none⟩ = some (.int .u8 a0_3) := (blk_cell BK261.out 3).trans rfl
         have hcz49_4 : wc.cell? ⟨gb261, 4, none⟩ = some (.int .u8 a0_4) := (blk_cell BK261.out 4).trans rfl
         have hcz49_5 : wc.cell? ⟨gb261, 5, none⟩ = some (.int .u8 a0_5) := (blk_cell BK261.out 5).trans rfl
         have hcz49_6 : wc.cell? ⟨gb261, 6, none⟩ = some (.int .u8 a0_6) := (blk_cell BK261.out 6).trans rfl
         have hcz49_7 : wc.cell? ⟨gb261, 7, none⟩ = some (.int .u8 a0_7) := (blk_cell BK261.out 7).trans rfl
         have hcz49_8 : wc.cell? ⟨gb261, 8, none⟩ = some (.int .u8 a0_8) := (blk_cell BK261.out 8).trans rfl
         have hcz49_9 : wc.cell? ⟨gb261, 9, none⟩ = some (.int .u8 a0_9) := (blk_cell BK261.out 9).trans rfl
         have hcz49_10 : wc.cell? ⟨gb261, 10, none⟩ = some (.int .u32 a0_10) := (blk_cell BK261.out 10).trans rfl
         have hfz49_0 := blk_frozen BK261.out 0
         have hfz49_1 := blk_frozen BK261.out 1
         have hfz49_2 := blk_frozen BK261.out 2
         have hfz49_3 := blk_frozen BK261.out 3
         have hfz49_4 := blk_frozen BK261.out 4
         have hfz49_5 := blk_frozen BK261.out 5
         have hfz49_6 := blk_frozen BK261.out 6
         have hfz49_7 := blk_frozen BK261.out 7
         have hfz49_8 := blk_frozen BK261.out 8
         have hfz49_9 := blk_frozen BK261.out 9
         have hfz49_10 := blk_frozen BK261.out 10
         go_upto_if 89 with (fail)
         go_cut [5] (fun v5 wc => ∃ (kq : Nat) (x5_47 : List ByteArray), Aside0 (salvorkeep_Dd_Args.j3 kq x5_47 a0_0 a0_1 a0_2 a0_3 a0_4 a0_5 a0_6 a0_7 a0_8 a0_9 a0_10 = some r) ∧ Aside0 (kq ≤ kj38) ∧ Aside0 (Kd.R Kd.string 9 wc w.heap.size (fun _ => True) v5 x5_47) ∧ Aside0 (wc.heap[gb261]? = some (.cells #[.int .u8 a0_0, .int .u8 a0_1, .int .u8 a0_2, .int .u8 a0_3, .int .u8 a0_4, .int .u8 a0_5, .int .u8 a0_6, .int .u8 a0_7, .int .u8 a0_8, .int .u8 a0_9, .int .u32 a0_10] 32 (0, 0))) ∧ Aside0 (Below w.heap.size w wc))
         case first =>
          have H := HC48.out
          clear HC48
          by_cases c50 : (Go.bits .and .u8 a0_9 2) = 2
          ·rw [if_pos c50] at H
           have c50b0 : ((Go.bits .and .u8 a0_9 2) == 2) = true := beq_iff_eq.mpr c50
           have c50b1 : ((Go.bits .and .u8 a0_9 2) != 2) = false := bne_eq_false_iff_eq.mpr c50
           clear c50
           (first | rw [c50b0] | (simp only [i64_w, i32_w]; rw [c50b0]) | skip)
           by_cases c51 : x5_38.length < 8796093022208
           ·rw [if_pos c51] at H
            have LMc51 := Aside0.mk c51
            clear c51
            obtain ⟨y290, hy290⟩ : ∃ y_ : List ByteArray, y_ = (x5_38 ++ [(⟨#[105, 102, 108, 97, 103, 61, 102, 117, 108, 108, 98, 108, 111, 99, 107]⟩ : ByteArray)]) := ⟨_, rfl⟩
            replace H : (salvorkeep_Dd_Args.j3 kj38 y290 a0_0 a0_1 a0_2 a0_3 a0_4 a0_5 a0_6 a0_7 a0_8 a0_9 a0_10) = some r := by first | (rw [hy290]; with_reducible exact H) | (have H2_ := (Option.bind_some _ _).symm.trans H; rw [hy290]; with_reducible exact H2_) | (have H2_ := (Option.bind_some _ _).symm.trans H; with_reducible exact H2_) | with_reducible exact H | (rw [hy290]; exact H) | exact H
            have Ny290 := Aside0.mk hy290
            clear hy290
            have H' := Aside0.mk H
            clear H
            go_wp2_with (first | ((with_reducible refine gate_builtin (b := .append) (xs := #[.tmp 90, .tmp 91]) rfl ?_); at_builtin; refine Kd.R_append Kd.string (w0 := w) w.heap.size rfl (.tmp 90) (.tmp 91) 33 9 (.string ⟨#[]⟩) 16 rfl Tryd.underlying33 info9 rfl (by decide) (by omega) u5 x5_38 (⟨#[105, 102, 108, 97, 103, 61, 102, 117, 108, 108, 98, 108, 111, 99, 107]⟩ : ByteArray) [.string (⟨#[105, 102, 108, 97, 103, 61, 102, 117, 108, 108, 98, 108, 111, 99, 107]⟩ : ByteArray)] (fun _ => True) (fun _ => False) rfl rfl ?aP (fun _ hk => hk.elim) ?aF ?aO ?aB ?aS ?aL ?_; (case aP => exact rfl); (case aB => exact (bh_ HB)); (case aF => exact (fun _ _ => trivial)); (case aO => exact (by (with_reducible repeat (first | apply Kd.R_alloc | apply Kd.R_drewN | apply Kd.R_drew)); exact HO_5.out)); (case aS => exact (below_size (bh_ HB))); (case aL => have := LMc51.out; omega); intro v291 w52 ho hb hg hat; rw [← Ny290.out] at ho; have HO292 := Aside0.mk (ho); replace BK261 := Aside0.mk (blk_grown (g := gb261) (o := .cells #[.int .u8 a0_0, .int .u8 a0_1, .int .u8 a0_2, .int .u8 a0_3, .int .u8 a0_4, .int .u8 a0_5, .int .u8 a0_6, .int .u8 a0_7, .int .u8 a0_8, .int .u8 a0_9, .int .u32 a0_10] 32 (0, 0)) (bq_ BK261) hg (Kd.R_ne HO_5.out BK261.out (by decide))); replace HB := Aside0.mk (hb); clear HO_5; clear ho hb hg hat))
            go_meet
            case rel => exact ⟨_, (y290), H', ⟨by have := HJ4.out; have := HK2.out; have := HJ38.out; first | omega | exact Nat.le_refl _⟩, ⟨by (with_reducible repeat (first | apply Kd.R_alloc | apply Kd.R_drewN | apply Kd.R_drew)); exact HO292.out⟩, ⟨bq_ BK261⟩, ⟨bh_ HB⟩⟩
           ·rw [if_neg c51] at H
            exact absurd H (by simp)
          ·rw [if_neg c50] at H
           have c50b0 : ((Go.bits .and .u8 a0_9 2) == 2) = false := beq_eq_false_iff_ne.mpr c50
           have c50b1 : ((Go.bits .and .u8 a0_9 2) != 2) = true := bne_iff_ne.mpr c50
           (first | rw [c50b0] | (simp only [i64_w, i32_w]; rw [c50b0]) | skip)
           have H' := Aside0.mk H
           clear H
           go_wp2
           go_meet
           case rel => exact ⟨_, (x5_38), H', ⟨by have := HJ4.out; have := HK2.out; have := HJ38.out; first | omega | exact Nat.le_refl _⟩, ⟨by (with_reducible repeat (first | apply Kd.R_alloc | apply Kd.R_drewN | apply Kd.R_drew)); exact HO_5.out⟩, ⟨bq_ BK261⟩, ⟨bh_ HB⟩⟩
         case rest =>
          clear HC48
          try clear c1
          try clear c2
          try clear p2
          try clear q2
          try clear hx2
          try clear c3
          try clear c4
          try clear c4b0
          try clear c4b1
          try clear c4b2
          try clear c5
          try clear p6
          try clear c7
          try clear c11
          try clear c12
          try clear c15
          try clear c15b0
          try clear c15b1
          try clear c15b2
          try clear c16
          try clear c17
          try clear c25
          try clear c25b0
          try clear c26
          try clear c26b0
          try clear c27
          try clear c27b0
          try clear p27
          try clear q27
          try clear hx27
          try clear c28
          try clear c28b0
          try clear p28
          try clear q28
          try clear hx28
          try clear c29
          try clear c29b0
          try clear c29b1
          try clear c29b2
          try clear c31
          try clear c31b0
          try clear c31b1
          try clear c31b2
          try clear c32
          try clear c42
          try clear c42b0
          try clear c42b1
          try clear c44
          try clear c44b0
          try clear c44b1
          try clear c44b2
          try clear c45
          try clear c50
          try clear c50b0
          try clear c50b1
          try clear c51
          try clear hcz17_0 hcz17_1 hcz17_10 hcz17_2 hcz17_3 hcz17_4 hcz17_5 hcz17_6 hcz17_7 hcz17_8 hcz17_9
          try clear hcz22_0 hcz22_1 hcz22_10 hcz22_2 hcz22_3 hcz22_4 hcz22_5 hcz22_6 hcz22_7 hcz22_8 hcz22_9
          try clear hcz41_0 hcz41_1 hcz41_10 hcz41_2 hcz41_3 hcz41_4 hcz41_5 hcz41_6 hcz41_7 hcz41_8 hcz41_9
          try clear hcz46_0 hcz46_1 hcz46_10 hcz46_2 hcz46_3 hcz46_4 hcz46_5 hcz46_6 hcz46_7 hcz46_8 hcz46_9
          try clear hcz49_0 hcz49_1 hcz49_10 hcz49_2 hcz49_3 hcz49_4 hcz49_5 hcz49_6 hcz49_7 hcz49_8 hcz49_9
          try clear hcz7_0 hcz7_1 hcz7_10 hcz7_2 hcz7_3 hcz7_4 hcz7_5 hcz7_6 hcz7_7 hcz7_8 hcz7_9
          try clear hfz17_0 hfz17_1 hfz17_10 hfz17_2 hfz17_3 hfz17_4 hfz17_5 hfz17_6 hfz17_7 hfz17_8 hfz17_9
          try clear hfz22_0 hfz22_1 hfz22_10 hfz22_2 hfz22_3 hfz22_4 hfz22_5 hfz22_6 hfz22_7 hfz22_8 hfz22_9
          try clear hfz41_0 hfz41_1 hfz41_10 hfz41_2 hfz41_3 hfz41_4 hfz41_5 hfz41_6 hfz41_7 hfz41_8 hfz41_9
          try clear hfz46_0 hfz46_1 hfz46_10 hfz46_2 hfz46_3 hfz46_4 hfz46_5 hfz46_6 hfz46_7 hfz46_8 hfz46_9
          try clear hfz49_0 hfz49_1 hfz49_10 hfz49_2 hfz49_3 hfz49_4 hfz49_5 hfz49_6 hfz49_7 hfz49_8 hfz49_9
          try clear hfz7_0 hfz7_1 hfz7_10 hfz7_2 hfz7_3 hfz7_4 hfz7_5 hfz7_6 hfz7_7 hfz7_8 hfz7_9
          try clear hx279_0
          try clear hx280_0
          try clear hx281_0
          try clear p2
          try clear p27
          try clear p279
          try clear p28
          try clear p280
          try clear p281
          try clear p6
          try clear q2
          try clear q27
          try clear q279
          try clear q28
          try clear q280
          try clear q281
          obtain ⟨kq, x5_47, HA, HJ47, HO_5, BK261, HB⟩ := hcut
          cases kq with
          | zero => exact absurd HA.out (by simp [salvorkeep_Dd_Args.j3])
          | succ kj47 =>
           have H := HA.out
           clear HA
           simp only [salvorkeep_Dd_Args.j3] at H
           replace H := Option.bind_eq_some_iff.mp H
           obtain ⟨t293, A530, H⟩ := H
           replace H : (salvorkeep_Dd_Args.l1 kj47 x5_47 t293 0 a0_0 a0_1 a0_2 a0_3 a0_4 a0_5 a0_6 a0_7 a0_8 a0_9 a0_10) = some r := H
           have A53 := Aside0.mk A530
           clear A530
           have H' := Aside0.mk H
           clear H
           go_wp2_with (first | ((with_reducible refine gate_callee (f := 18) rfl ?_); refine gl_ (some 93) rfl rfl Tryd.func18 (by kernel_rfl) rfl #[] rfl ?_; (with_reducible refine (salvorkeep_words.calls  t293 _ A53.out).mono ?_); rintro e w54 ⟨v294, rfl, ho0, hb⟩; refine ⟨_, rfl, ?_⟩; have n0_ := Aside0.mk (Kd.R_elder' (by (with_reducible repeat (first | apply Kd.R_alloc | apply Kd.R_drewN | apply Kd.R_drew)); exact HO_5.out) (Kd.R_base ho0) hb); have n1_ := Aside0.mk (Kd.R_lower (Kd.R_new' ho0 (Kd.R_lt (by (with_reducible repeat (first | apply Kd.R_alloc | apply Kd.R_drewN | apply Kd.R_drew)); exact HO_5.out))) (below_size (bh_ HB))); have n2_ := bb_ BK261 hb; have n3_ := bs_ HB hb; clear HO_5; clear BK261; clear HB; have HO_5 := n0_; have HO295 := n1_; have BK261 := n2_; have HB := n3_; clear n0_ n1_ n2_ n3_; (try clear hb); (try clear hb2); (try clear hk); (try clear hi); (try clear ho0)))
           go_loopg [5, 10] kj47 (fun kq v5 v10 w' => ∃ (x5_5 : List ByteArray) (x10_5 : Int), v10 = .int .i64 x10_5 ∧ Aside0 (salvorkeep_Dd_Args.l1 kq x5_5 t293 x10_5 a0_0 a0_1 a0_2 a0_3 a0_4 a0_5 a0_6 a0_7 a0_8 a0_9 a0_10 = some r) ∧ Aside0 (kq ≤ kj47) ∧ Aside0 (Kd.R Kd.string 9 w' w.heap.size (fun k_ => some k_ ≠ (v294 : Value).ownBlock) v5 x5_5) ∧ Aside0 (Kd.R Kd.string 9 w' w.heap.size (fun k_ => some k_ ≠ (v5 : Value).ownBlock) v294 t293) ∧ Aside0 (w'.heap[gb261]? = some (.cells #[.int .u8 a0_0, .int .u8 a0_1, .int .u8 a0_2, .int .u8 a0_3, .int .u8 a0_4, .int .u8 a0_5, .int .u8 a0_6, .int .u8 a0_7, .int .u8 a0_8, .int .u8 a0_9, .int .u32 a0_10] 32 (0, 0))) ∧ Aside0 (Below w.heap.size w w'))
           case atStart => exact ⟨(x5_47), (0), (by first | rfl | (simp; done) | (simp [*]; done)), H', ⟨Nat.le_refl _⟩, ⟨by (with_reducible repeat (first | apply Kd.R_alloc | apply Kd.R_drewN | apply Kd.R_drew)); exact Kd.R_mono HO_5.out (fun _ hk => hk.2)⟩, ⟨by (with_reducible repeat (first | apply Kd.R_alloc | apply Kd.R_drewN | apply Kd.R_drew)); exact Kd.R_mono HO295.out (fun _ hk => hk.2)⟩, ⟨bq_ BK261⟩, ⟨bh_ HB⟩⟩
           case round =>
            clear H'
            try clear c1
            try clear c2
            try clear p2
            try clear q2
            try clear hx2
            try clear c3
            try clear c4
            try clear c4b0
            try clear c4b1
            try clear c4b2
            try clear c5
            try clear p6
            try clear c7
            try clear c11
            try clear c12
            try clear c15
            try clear c15b0
            try clear c15b1
            try clear c15b2
            try clear c16
            try clear c17
            try clear c18
            try clear c25
            try clear c25b0
            try clear c26
            try clear c26b0
            try clear c27
            try clear c27b0
            try clear p27
            try clear q27
            try clear hx27
            try clear c28
            try clear c28b0
            try clear p28
            try clear q28
            try clear hx28
            try clear c29
            try clear c29b0
            try clear c29b1
            try clear c29b2
            try clear c31
            try clear c31b0
            try clear c31b1
            try clear c31b2
            try clear c32
            try clear c42
            try clear c42b0
            try clear c42b1
            try clear c44
            try clear c44b0
            try clear c44b1
            try clear c44b2
            try clear c45
            try clear c50
            try clear c50b0
            try clear c50b1
            try clear c51
            try clear hcz17_0 hcz17_1 hcz17_10 hcz17_2 hcz17_3 hcz17_4 hcz17_5 hcz17_6 hcz17_7 hcz17_8 hcz17_9
            try clear hcz22_0 hcz22_1 hcz22_10 hcz22_2 hcz22_3 hcz22_4 hcz22_5 hcz22_6 hcz22_7 hcz22_8 hcz22_9
            try clear hcz41_0 hcz41_1 hcz41_10 hcz41_2 hcz41_3 hcz41_4 hcz41_5 hcz41_6 hcz41_7 hcz41_8 hcz41_9
            try clear hcz46_0 hcz46_1 hcz46_10 hcz46_2 hcz46_3 hcz46_4 hcz46_5 hcz46_6 hcz46_7 hcz46_8 hcz46_9
            try clear hcz49_0 hcz49_1 hcz49_10 hcz49_2 hcz49_3 hcz49_4 hcz49_5 hcz49_6 hcz49_7 hcz49_8 hcz49_9
            try clear hcz7_0 hcz7_1 hcz7_10 hcz7_2 hcz7_3 hcz7_4 hcz7_5 hcz7_6 hcz7_7 hcz7_8 hcz7_9
            try clear hfz17_0 hfz17_1 hfz17_10 hfz17_2 hfz17_3 hfz17_4 hfz17_5 hfz17_6 hfz17_7 hfz17_8 hfz17_9
            try clear hfz22_0 hfz22_1 hfz22_10 hfz22_2 hfz22_3 hfz22_4 hfz22_5 hfz22_6 hfz22_7 hfz22_8 hfz22_9
            try clear hfz41_0 hfz41_1 hfz41_10 hfz41_2 hfz41_3 hfz41_4 hfz41_5 hfz41_6 hfz41_7 hfz41_8 hfz41_9
            try clear hfz46_0 hfz46_1 hfz46_10 hfz46_2 hfz46_3 hfz46_4 hfz46_5 hfz46_6 hfz46_7 hfz46_8 hfz46_9
            try clear hfz49_0 hfz49_1 hfz49_10 hfz49_2 hfz49_3 hfz49_4 hfz49_5 hfz49_6 hfz49_7 hfz49_8 hfz49_9
            try clear hfz7_0 hfz7_1 hfz7_10 hfz7_2 hfz7_3 hfz7_4 hfz7_5 hfz7_6 hfz7_7 hfz7_8 hfz7_9
            try clear hx279_0
            try clear hx280_0
            try clear hx281_0
            try clear p2
            try clear p27
            try clear p279
            try clear p28
            try clear p280
            try clear p281
            try clear p6
            try clear q2
            try clear q27
            try clear q279
            try clear q28
            try clear q280
            try clear q281
            obtain ⟨x5_5, x10_5, rfl, HA, HK5, HO_5, HO_9, BK261, HB⟩ := hrel
            cases gk with
            | zero => exact absurd HA.out (by simp [salvorkeep_Dd_Args.l1])
            | succ k5 =>
             have H := HA.out
             clear HA
             simp only [salvorkeep_Dd_Args.l1] at H
             by_cases c55 : x10_5 < (t293.length : Int)
             ·rw [if_pos c55] at H
              have c55b0 : decide (x10_5 < (t293.length : Int)) = true := decide_eq_true c55
              clear c55
              obtain ⟨ji56, hji56⟩ : ∃ j_ : Int, (IntKind.u64.wrap (x10_5)) = j_ := ⟨_, rfl⟩
              replace H : (if 0 ≤ (ji56) then (if (Go.bits .and .u32 (shr .u32 a0_10 (ji56)) 1) = 1 then (if 0 ≤ x10_5 then (if 5 + (rdOf ByteArray.empty t293 x10_5).size ≤ 9223372036854775807 then (if x5_5.length < 8796093022208 then (salvorkeep_Dd_Args.l1 k5 (x5_5 ++ [(⟨#[99, 111, 110, 118, 61]⟩ : ByteArray) ++ (rdOf ByteArray.empty t293 x10_5)]) t293 (wrap64 (x10_5 + 1)) a0_0 a0_1 a0_2 a0_3 a0_4 a0_5 a0_6 a0_7 a0_8 a0_9 a0_10) else (none)) else (none)) else (none)) else (salvorkeep_Dd_Args.l1 k5 x5_5 t293 (wrap64 (x10_5 + 1)) a0_0 a0_1 a0_2 a0_3 a0_4 a0_5 a0_6 a0_7 a0_8 a0_9 a0_10)) else (none)) = some r := by first | (rw [hji56] at H; exact H) | (simp only [hji56] at H ⊢; exact H)
              by_cases c57 : 0 ≤ (ji56)
              ·rw [if_pos c57] at H
               have c57b0 := eq_true c57
               have c57b1 : decide (0 ≤ (ji56)) = true := decide_eq_true c57
               clear c57
               obtain ⟨ji58, hji58⟩ : ∃ j_ : Int, (shr .u32 a0_10 (ji56)) = j_ := ⟨_, rfl⟩
               replace H : (if (Go.bits .and .u32 (ji58) 1) = 1 then (if 0 ≤ x10_5 then (if 5 + (rdOf ByteArray.empty t293 x10_5).size ≤ 9223372036854775807 then (if x5_5.length < 8796093022208 then (salvorkeep_Dd_Args.l1 k5 (x5_5 ++ [(⟨#[99, 111, 110, 118, 61]⟩ : ByteArray) ++ (rdOf ByteArray.empty t293 x10_5)]) t293 (wrap64 (x10_5 + 1)) a0_0 a0_1 a0_2 a0_3 a0_4 a0_5 a0_6 a0_7 a0_8 a0_9 a0_10) else (none)) else (none)) else (none)) else (salvorkeep_Dd_Args.l1 k5 x5_5 t293 (wrap64 (x10_5 + 1)) a0_0 a0_1 a0_2 a0_3 a0_4 a0_5 a0_6 a0_7 a0_8 a0_9 a0_10)) = some r := by first | (rw [hji58] at H; exact H) | (simp only [hji58] at H ⊢; exact H)
               have hji58_ : (a0_10 / 2 ^ min (ji56).toNat 32) = ji58 := hji58
               have hji58z : (ji56) ≤ 32 → (a0_10 / 2 ^ (ji56).toNat) = ji58 := shr_small hji58
               by_cases c59 : (Go.bits .and .u32 (ji58) 1) = 1
               ·rw [if_pos c59] at H
                have c59b0 : ((Go.bits .and .u32 (ji58) 1) == 1) = true := beq_iff_eq.mpr c59
                have c59b1 : ((Go.bits .and .u32 (ji58) 1) != 1) = false := bne_eq_false_iff_eq.mpr c59
                clear c59
                by_cases c60 : 0 ≤ x10_5
                ·rw [if_pos c60] at H
                 have c60b0 : decide (0 ≤ x10_5) = true := decide_eq_true c60
                 clear c60
                 by_cases c61 : 5 + (rdOf ByteArray.empty t293 x10_5).size ≤ 9223372036854775807
                 ·rw [if_pos c61] at H
                  have c61b0 := eq_true c61
                  have c61b1 : decide (5 + (rdOf ByteArray.empty t293 x10_5).size ≤ 9223372036854775807) = true := decide_eq_true c61
                  try have c61b2 : (9223372036854775807 < 5 + (rdOf ByteArray.empty t293 x10_5).size) = False := eq_false (Nat.not_lt.2 c61)
                  by_cases c62 : x5_5.length < 8796093022208
                  ·rw [if_pos c62] at H
                   have LMc62 := Aside0.mk c62
                   clear c62
                   obtain ⟨y297, hy297⟩ : ∃ y_ : List ByteArray, y_ = (x5_5 ++ [(⟨#[99, 111, 110, 118, 61]⟩ : ByteArray) ++ (rdOf ByteArray.empty t293 x10_5)]) := ⟨_, rfl⟩
                   replace H : (salvorkeep_Dd_Args.l1 k5 y297 t293 (wrap64 (x10_5 + 1)) a0_0 a0_1 a0_2 a0_3 a0_4 a0_5 a0_6 a0_7 a0_8 a0_9 a0_10) = some r := by first | (rw [hy297]; with_reducible exact H) | (have H2_ := (Option.bind_some _ _).symm.trans H; rw [hy297]; with_reducible exact H2_) | (have H2_ := (Option.bind_some _ _).symm.trans H; with_reducible exact H2_) | with_reducible exact H | (rw [hy297]; exact H) | exact H
                   have Ny297 := Aside0.mk hy297
                   clear hy297
                   have H' := Aside0.mk H
                   clear H
                   obtain ⟨Ao63, co63, eo63⟩ := Kd.R_slice HO_9.out
                   subst eo63
                   have hcz64_0 : wr.cell? ⟨gb261, 0, none⟩ = some (.int .u8 a0_0) := (blk_cell BK261.out 0).trans rfl
                   have hcz64_1 : wr.cell? ⟨gb261, 1, none⟩ = some (.int .u8 a0_1) := (blk_cell BK261.out 1).trans rfl
                   have hcz64_2 : wr.cell? ⟨gb261, 2, none⟩ = some (.int .u8 a0_2) := (blk_cell BK261.out 2).trans rfl
                   have hcz64_3 : wr.cell? ⟨gb261, 3, none⟩ = some (.int .u8 a0_3) := (blk_cell BK261.out 3).trans rfl
                   have hcz64_4 : wr.cell? ⟨gb261, 4, none⟩ = some (.int .u8 a0_4) := (blk_cell BK261.out 4).trans rfl
                   have hcz64_5 : wr.cell? ⟨gb261, 5, none⟩ = some (.int .u8 a0_5) := (blk_cell BK261.out 5).trans rfl
                   have hcz64_6 : wr.cell? ⟨gb261, 6, none⟩ = some (.int .u8 a0_6) := (blk_cell BK261.out 6).trans rfl
                   have hcz64_7 : wr.cell? ⟨gb261, 7, none⟩ = some (.int .u8 a0_7) := (blk_cell BK261.out 7).trans rfl
                   have hcz64_8 : wr.cell? ⟨gb261, 8, none⟩ = some (.int .u8 a0_8) := (blk_cell BK261.out 8).trans rfl
                   have hcz64_9 : wr.cell? ⟨gb261, 9, none⟩ = some (.int .u8 a0_9) := (blk_cell BK261.out 9).trans rfl
                   have hcz64_10 : wr.cell? ⟨gb261, 10, none⟩ = some (.int .u32 a0_10) := (blk_cell BK261.out 10).trans rfl
                   have hfz64_0 := blk_frozen BK261.out 0
                   have hfz64_1 := blk_frozen BK261.out 1
                   have hfz64_2 := blk_frozen BK261.out 2
                   have hfz64_3 := blk_frozen BK261.out 3
                   have hfz64_4 := blk_frozen BK261.out 4
                   have hfz64_5 := blk_frozen BK261.out 5
                   have hfz64_6 := blk_frozen BK261.out 6
                   have hfz64_7 := blk_frozen BK261.out 7
                   have hfz64_8 := blk_frozen BK261.out 8
                   have hfz64_9 := blk_frozen BK261.out 9
                   have hfz64_10 := blk_frozen BK261.out 10
                   have p296 : 0 ≤ (x10_5 : Int) := of_decide_eq_true (by first | (with_reducible assumption) | assumption)
                   have q296 : x10_5 < (t293.length : Int) := of_decide_eq_true (by first | (with_reducible assumption) | assumption)
                   obtain ⟨ad296, e296, hx296_0⟩ := Kd.at_string (Kd.R_reads' HO_9.out).2.2 x10_5 p296 q296
                   cases e296
                   replace p296 := eq_true p296
                   replace q296 := eq_true q296
                   go_wp2_with (first | ((with_reducible refine gate_builtin (b := .append) (xs := #[.tmp 107, .tmp 113]) rfl ?_); at_builtin; refine Kd.R_append Kd.string (w0 := w) w.heap.size rfl (.tmp 107) (.tmp 113) 33 9 (.string ⟨#[]⟩) 16 rfl Tryd.underlying33 info9 rfl (by decide) (by omega) u5 x5_5 ((⟨#[99, 111, 110, 118, 61]⟩ : ByteArray) ++ (rdOf ByteArray.empty t293 x10_5)) [.string ((⟨#[99, 111, 110, 118, 61]⟩ : ByteArray) ++ (rdOf ByteArray.empty t293 x10_5))] (fun k_ => some k_ ≠ (.slice (some ad296) t293.length co63 : Value).ownBlock) (fun _ => False) rfl rfl ?aP (fun _ hk => hk.elim) ?aF ?aO ?aB ?aS ?aL ?_; (case aP => exact rfl); (case aB => exact (bh_ HB)); (case aF => exact (fun k_ hk => Kd.fresh' (Kd.R_lt (by (with_reducible repeat (first | apply Kd.R_alloc | apply Kd.R_drewN | apply Kd.R_drew)); exact HO_9.out)) k_ hk)); (case aO => exact (by (with_reducible repeat (first | apply Kd.R_alloc | apply Kd.R_drewN | apply Kd.R_drew)); exact HO_5.out)); (case aS => exact (below_size (bh_ HB))); (case aL => have := LMc62.out; omega); intro v298 w65 ho hb hg hat; rw [← Ny297.out] at ho; have n0_ := Aside0.mk (Kd.R_after (ok := (fun _ => True)) (by (with_reducible repeat (first | apply Kd.R_alloc | apply Kd.R_drewN | apply Kd.R_drew)); exact Kd.R_mono HO_9.out (fun _ hk => ⟨trivial, hk⟩)) hg hat); have n1_ := Aside0.mk (blk_grown (g := gb261) (o := .cells #[.int .u8 a0_0, .int .u8 a0_1, .int .u8 a0_2, .int .u8 a0_3, .int .u8 a0_4, .int .u8 a0_5, .int .u8 a0_6, .int .u8 a0_7, .int .u8 a0_8, .int .u8 a0_9, .int .u32 a0_10] 32 (0, 0)) (bq_ BK261) hg (Kd.R_ne HO_5.out BK261.out (by decide))); have n2_ := Aside0.mk (hb); have n3_ := Aside0.mk (ho); clear HO_9; clear BK261; clear HB; clear HO_5; have HO_9 := n0_; have BK261 := n1_; have HB := n2_; have HO299 := n3_; clear n0_ n1_ n2_ n3_; clear ho hb hg hat))
                   go_roundg k5
                   case measure => have := HJ4.out; have := HK2.out; have := HJ38.out; have := HJ47.out; have := HK5.out; omega
                   case rel => exact ⟨(y297), (wrap64 (x10_5 + 1)), (by first | rfl | (simp; done) | (simp [*]; done)), H', ⟨by have := HJ4.out; have := HK2.out; have := HJ38.out; have := HJ47.out; have := HK5.out; omega⟩, ⟨by (with_reducible repeat (first | apply Kd.R_alloc | apply Kd.R_drewN | apply Kd.R_drew)); exact HO299.out⟩, ⟨by (with_reducible repeat (first | apply Kd.R_alloc | apply Kd.R_drewN | apply Kd.R_drew)); exact Kd.R_mono HO_9.out (fun _ hk => hk.2)⟩, ⟨bq_ BK261⟩, ⟨bh_ HB⟩⟩
                  ·rw [if_neg c62] at H
                   exact absurd H (by simp)
                 ·rw [if_neg c61] at H
                  exact absurd H (by simp)
                ·rw [if_neg c60] at H
                 exact absurd H (by simp)
               ·rw [if_neg c59] at H
                have c59b0 : ((Go.bits .and .u32 (ji58) 1) == 1) = false := beq_eq_false_iff_ne.mpr c59
                have c59b1 : ((Go.bits .and .u32 (ji58) 1) != 1) = true := bne_iff_ne.mpr c59
                have H' := Aside0.mk H
                clear H
                obtain ⟨Ao66, co66, eo66⟩ := Kd.R_slice HO_9.out
                subst eo66
                have hcz67_0 : wr.cell? ⟨gb261, 0, none⟩ = some (.int .u8 a0_0) := (blk_cell BK261.out 0).trans rfl
                have hcz67_1 : wr.cell? ⟨gb261, 1, none⟩ = some (.int .u8 a0_1) := (blk_cell BK261.out 1).trans rfl
                have hcz67_2 : wr.cell? ⟨gb261, 2, none⟩ = some (.int .u8 a0_2) := (blk_cell BK261.out 2).trans rfl
                have hcz67_3 : wr.cell? ⟨gb261, 3, none⟩ = some (.int .u8 a0_3) := (blk_cell BK261.out 3).trans rfl
                have hcz67_4 : wr.cell? ⟨gb261, 4, none⟩ = some (.int .u8 a0_4) := (blk_cell BK261.out 4).trans rfl
                have hcz67_5 : wr.cell? ⟨gb261, 5, none⟩ = some (.int .u8 a0_5) := (blk_cell BK261.out 5).trans rfl
                have hcz67_6 : wr.cell? ⟨gb261, 6, none⟩ = some (.int .u8 a0_6) := (blk_cell BK261.out 6).trans rfl
                have hcz67_7 : wr.cell? ⟨gb261, 7, none⟩ = some (.int .u8 a0_7) := (blk_cell BK261.out 7).trans rfl
                have hcz67_8 : wr.cell? ⟨gb261, 8, none⟩ = some (.int .u8 a0_8) := (blk_cell BK261.out 8).trans rfl
                have hcz67_9 : wr.cell? ⟨gb261, 9, none⟩ = some (.int .u8 a0_9) := (blk_cell BK261.out 9).trans rfl
                have hcz67_10 : wr.cell? ⟨gb261, 10, none⟩ = some (.int .u32 a0_10) := (blk_cell BK261.out 10).trans rfl
                have hfz67_0 := blk_frozen BK261.out 0
                have hfz67_1 := blk_frozen BK261.out 1
                have hfz67_2 := blk_frozen BK261.out 2
                have hfz67_3 := blk_frozen BK261.out 3
                have hfz67_4 := blk_frozen BK261.out 4
                have hfz67_5 := blk_frozen BK261.out 5
                have hfz67_6 := blk_frozen BK261.out 6
                have hfz67_7 := blk_frozen BK261.out 7
                have hfz67_8 := blk_frozen BK261.out 8
                have hfz67_9 := blk_frozen BK261.out 9
                have hfz67_10 := blk_frozen BK261.out 10
                go_wp2
                go_roundg k5
                case measure => have := HJ4.out; have := HK2.out; have := HJ38.out; have := HJ47.out; have := HK5.out; omega
                case rel => exact ⟨(x5_5), (wrap64 (x10_5 + 1)), (by first | rfl | (simp; done) | (simp [*]; done)), H', ⟨by have := HJ4.out; have := HK2.out; have := HJ38.out; have := HJ47.out; have := HK5.out; omega⟩, ⟨by (with_reducible repeat (first | apply Kd.R_alloc | apply Kd.R_drewN | apply Kd.R_drew)); exact HO_5.out⟩, ⟨by (with_reducible repeat (first | apply Kd.R_alloc | apply Kd.R_drewN | apply Kd.R_drew)); exact HO_9.out⟩, ⟨bq_ BK261⟩, ⟨bh_ HB⟩⟩
              ·rw [if_neg c57] at H
               exact absurd H (by simp)
             ·rw [if_neg c55] at H
              have c55b0 : decide (x10_5 < (t293.length : Int)) = false := decide_eq_false c55
              clear c55
              obtain rfl := Option.some.inj H
              obtain ⟨Ao68, co68, eo68⟩ := Kd.R_slice HO_9.out
              subst eo68
              go_wp2
              go_ret
              exact ⟨_, by first | rfl | (simp [errW_none, errW_some] <;> rfl) | (simp [*, errW_none, errW_some] <;> rfl), by (with_reducible repeat (first | apply Kd.R_alloc | apply Kd.R_drewN | apply Kd.R_drew)); exact Kd.R_mono HO_5.out (fun _ hk => trivial), bh_ HB⟩
 ·rw [if_neg c4] at H
  exact absurd H (by simp)

end Go.Proofs.YtbmhfnncagncmaaDoor.P
