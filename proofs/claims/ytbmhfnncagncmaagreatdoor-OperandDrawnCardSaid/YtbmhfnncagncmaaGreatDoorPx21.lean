import Derived.Test.YtbmhfnncagncmaaGreatDoorPx19
import Derived.Test.YtbmhfnncagncmaaGreatDoorPx20
namespace Go.Proofs.YtbmhfnncagncmaaGreatDoor.P
open Go.RowKit Go.Proofs.YtbmhfnncagncmaaGreatDoorW.PrintWords Go.Proofs.YtbmhfnncagncmaaGreatDoorW.PrintLast Go.Proofs.YtbmhfnncagncmaaGreatDoorW.PrintMore
attribute [local go_sem] max2_int min2_int max_two min_two max_three min_three max_four min_four
set_option linter.unusedVariables false
set_option linter.unusedSimpArgs false
mutual
def salvorref22_words.l0 : Nat → List (S68) → Int → Bool → Bool → Bool → Bool → Bool → Bool → Bool → Bool → Int → ByteArray → ByteArray → Int → Int → Int → Int → Int → Bool → Bool → Bool → Bool → Bool → Bool → Bool → Bool → Bool → Bool → Option (Bool × Bool × Bool × Bool × Bool × Bool × Bool × Bool × Bool × Int × ByteArray × ByteArray × Int × Int × Int × Int × Int × Bool × Bool × Bool × Bool × Bool × Bool × Bool × Bool × Bool × Bool)
 | 0, _, _, _, _, _, _, _, _, _, _, _, _, _, _, _, _, _, _, _, _, _, _, _, _, _, _, _, _ => none
 | k + 1, x1, x5, x1000, x1001, x1002, x1003, x1004, x1005, x1006, x1007, x1008, x1009, x1010, x1011, x1012, x1013, x1014, x1015, x1016, x1017, x1018, x1019, x1020, x1021, x1022, x1023, x1024, x1025 => if x5 < (x1.length : Int) then (if 0 ≤ x5 then (if ((rd_T68 x1 x5).f0).toList = ([99, 111, 110, 118] : List UInt8) then (salvorref22_words.j1 k x1 x5 false x1000 x1001 x1002 x1003 x1004 x1005 x1006 x1007 x1008 x1009 x1010 x1011 x1012 x1013 x1014 x1015 x1016 x1017 x1018 x1019 x1020 x1021 x1022 x1023 x1024 x1025) else (salvorref22_words.j1 k x1 x5 (((rd_T68 x1 x5).f0).toList != ([105, 102, 108, 97, 103] : List UInt8)) x1000 x1001 x1002 x1003 x1004 x1005 x1006 x1007 x1008 x1009 x1010 x1011 x1012 x1013 x1014 x1015 x1016 x1017 x1018 x1019 x1020 x1021 x1022 x1023 x1024 x1025)) else (none)) else (some (true, x1000, x1001, x1002, x1003, x1004, x1005, x1006, x1007, x1008, x1009, x1010, x1011, x1012, x1013, x1014, x1015, x1016, x1017, x1018, x1019, x1020, x1021, x1022, x1023, x1024, x1025))
def salvorref22_words.j1 : Nat → List (S68) → Int → Bool → Bool → Bool → Bool → Bool → Bool → Bool → Bool → Bool → Int → ByteArray → ByteArray → Int → Int → Int → Int → Int → Bool → Bool → Bool → Bool → Bool → Bool → Bool → Bool → Bool → Bool → Option (Bool × Bool × Bool × Bool × Bool × Bool × Bool × Bool × Bool × Int × ByteArray × ByteArray × Int × Int × Int × Int × Int × Bool × Bool × Bool × Bool × Bool × Bool × Bool × Bool × Bool × Bool)
 | 0, _, _, _, _, _, _, _, _, _, _, _, _, _, _, _, _, _, _, _, _, _, _, _, _, _, _, _, _, _ => none
 | k + 1, x1, x5, x27, x1000, x1001, x1002, x1003, x1004, x1005, x1006, x1007, x1008, x1009, x1010, x1011, x1012, x1013, x1014, x1015, x1016, x1017, x1018, x1019, x1020, x1021, x1022, x1023, x1024, x1025 => if x27 = true then (salvorref22_words.l0 k x1 (wrap64 (x5 + 1)) x1000 x1001 x1002 x1003 x1004 x1005 x1006 x1007 x1008 x1009 x1010 x1011 x1012 x1013 x1014 x1015 x1016 x1017 x1018 x1019 x1020 x1021 x1022 x1023 x1024 x1025) else (if 0 ≤ x5 then (if x5 < (x1.length : Int) then ((salvorref6_Words.f k ((rd_T68 x1 x5).f1) 44).bind fun t223 => (salvorref22_words.l1 k x1 x5 t223 0 x1000 x1001 x1002 x1003 x1004 x1005 x1006 x1007 x1008 x1009 x1010 x1011 x1012 x1013 x1014 x1015 x1016 x1017 x1018 x1019 x1020 x1021 x1022 x1023 x1024 x1025)) else (none)) else (none))
def salvorref22_words.l1 : Nat → List (S68) → Int → List ByteArray → Int → Bool → Bool → Bool → Bool → Bool → Bool → Bool → Bool → Int → ByteArray → ByteArray → Int → Int → Int → Int → Int → Bool → Bool → Bool → Bool → Bool → Bool → Bool → Bool → Bool → Bool → Option (Bool × Bool × Bool × Bool × Bool × Bool × Bool × Bool × Bool × Int × ByteArray × ByteArray × Int × Int × Int × Int × Int × Bool × Bool × Bool × Bool × Bool × Bool × Bool × Bool × Bool × Bool)
 | 0, _, _, _, _, _, _, _, _, _, _, _, _, _, _, _, _, _, _, _, _, _, _, _, _, _, _, _, _, _, _ => none
 | k + 1, x1, x5, x6, x7, x1000, x1001, x1002, x1003, x1004, x1005, x1006, x1007, x1008, x1009, x1010, x1011, x1012, x1013, x1014, x1015, x1016, x1017, x1018, x1019, x1020, x1021, x1022, x1023, x1024, x1025 => if x7 < (x6.length : Int) then (if 0 ≤ x5 then (if x5 < (x1.length : Int) then (if ((rd_T68 x1 x5).f0).toList = ([105, 102, 108, 97, 103] : List UInt8) then (if 0 ≤ x7 then (salvorref22_words.j3 k x1 x5 x6 x7 ((rdOf ByteArray.empty x6 x7).toList == ([102, 117, 108, 108, 98, 108, 111, 99, 107] : List UInt8)) x1000 x1001 x1002 x1003 x1004 x1005 x1006 x1007 x1008 x1009 x1010 x1011 x1012 x1013 x1014 x1015 x1016 x1017 x1018 x1019 x1020 x1021 x1022 x1023 x1024 x1025) else (none)) else (salvorref22_words.j3 k x1 x5 x6 x7 false x1000 x1001 x1002 x1003 x1004 x1005 x1006 x1007 x1008 x1009 x1010 x1011 x1012 x1013 x1014 x1015 x1016 x1017 x1018 x1019 x1020 x1021 x1022 x1023 x1024 x1025)) else (none)) else (none)) else (salvorref22_words.l0 k x1 (wrap64 (x5 + 1)) x1000 x1001 x1002 x1003 x1004 x1005 x1006 x1007 x1008 x1009 x1010 x1011 x1012 x1013 x1014 x1015 x1016 x1017 x1018 x1019 x1020 x1021 x1022 x1023 x1024 x1025)
def salvorref22_words.j3 : Nat → List (S68) → Int → List ByteArray → Int → Bool → Bool → Bool → Bool → Bool → Bool → Bool → Bool → Bool → Int → ByteArray → ByteArray → Int → Int → Int → Int → Int → Bool → Bool → Bool → Bool → Bool → Bool → Bool → Bool → Bool → Bool → Option (Bool × Bool × Bool × Bool × Bool × Bool × Bool × Bool × Bool × Int × ByteArray × ByteArray × Int × Int × Int × Int × Int × Bool × Bool × Bool × Bool × Bool × Bool × Bool × Bool × Bool × Bool)
 | 0, _, _, _, _, _, _, _, _, _, _, _, _, _, _, _, _, _, _, _, _, _, _, _, _, _, _, _, _, _, _, _ => none
 | k + 1, x1, x5, x6, x7, x52, x1000, x1001, x1002, x1003, x1004, x1005, x1006, x1007, x1008, x1009, x1010, x1011, x1012, x1013, x1014, x1015, x1016, x1017, x1018, x1019, x1020, x1021, x1022, x1023, x1024, x1025 => if x52 = true then (salvorref22_words.l1 k x1 x5 x6 (wrap64 (x7 + 1)) x1000 x1001 x1002 x1003 x1004 x1005 x1006 x1007 x1008 x1009 x1010 x1011 x1012 x1013 x1014 x1015 x1016 x1017 true x1019 x1020 x1021 x1022 x1023 x1024 x1025) else (if 0 ≤ x5 then (if x5 < (x1.length : Int) then (if ((rd_T68 x1 x5).f0).toList = ([105, 102, 108, 97, 103] : List UInt8) then (some (false, x1000, x1001, x1002, x1003, x1004, x1005, x1006, x1007, x1008, x1009, x1010, x1011, x1012, x1013, x1014, x1015, x1016, x1017, x1018, x1019, x1020, x1021, x1022, x1023, x1024, x1025)) else (if 0 ≤ x7 then (if x7 < (x6.length : Int) then ((salvorref22_word.f x1000 x1001 x1002 x1003 x1004 x1005 x1006 x1007 x1008 x1009 x1010 x1011 x1012 x1013 x1014 x1015 x1016 x1017 x1018 x1019 x1020 x1021 x1022 x1023 x1024 x1025 (rdOf ByteArray.empty x6 x7)).bind fun bt230 => (if bt230.1 = true then (salvorref22_words.l1 k x1 x5 x6 (wrap64 (x7 + 1)) bt230.2.1 bt230.2.2.1 bt230.2.2.2.1 bt230.2.2.2.2.1 bt230.2.2.2.2.2.1 bt230.2.2.2.2.2.2.1 bt230.2.2.2.2.2.2.2.1 bt230.2.2.2.2.2.2.2.2.1 bt230.2.2.2.2.2.2.2.2.2.1 bt230.2.2.2.2.2.2.2.2.2.2.1 bt230.2.2.2.2.2.2.2.2.2.2.2.1 bt230.2.2.2.2.2.2.2.2.2.2.2.2.1 bt230.2.2.2.2.2.2.2.2.2.2.2.2.2.1 bt230.2.2.2.2.2.2.2.2.2.2.2.2.2.2.1 bt230.2.2.2.2.2.2.2.2.2.2.2.2.2.2.2.1 bt230.2.2.2.2.2.2.2.2.2.2.2.2.2.2.2.2.1 bt230.2.2.2.2.2.2.2.2.2.2.2.2.2.2.2.2.2.1 bt230.2.2.2.2.2.2.2.2.2.2.2.2.2.2.2.2.2.2.1 bt230.2.2.2.2.2.2.2.2.2.2.2.2.2.2.2.2.2.2.2.1 bt230.2.2.2.2.2.2.2.2.2.2.2.2.2.2.2.2.2.2.2.2.1 bt230.2.2.2.2.2.2.2.2.2.2.2.2.2.2.2.2.2.2.2.2.2.1 bt230.2.2.2.2.2.2.2.2.2.2.2.2.2.2.2.2.2.2.2.2.2.2.1 bt230.2.2.2.2.2.2.2.2.2.2.2.2.2.2.2.2.2.2.2.2.2.2.2.1 bt230.2.2.2.2.2.2.2.2.2.2.2.2.2.2.2.2.2.2.2.2.2.2.2.2.1 bt230.2.2.2.2.2.2.2.2.2.2.2.2.2.2.2.2.2.2.2.2.2.2.2.2.2.1 bt230.2.2.2.2.2.2.2.2.2.2.2.2.2.2.2.2.2.2.2.2.2.2.2.2.2.2) else (some (false, bt230.2.1, bt230.2.2.1, bt230.2.2.2.1, bt230.2.2.2.2.1, bt230.2.2.2.2.2.1, bt230.2.2.2.2.2.2.1, bt230.2.2.2.2.2.2.2.1, bt230.2.2.2.2.2.2.2.2.1, bt230.2.2.2.2.2.2.2.2.2.1, bt230.2.2.2.2.2.2.2.2.2.2.1, bt230.2.2.2.2.2.2.2.2.2.2.2.1, bt230.2.2.2.2.2.2.2.2.2.2.2.2.1, bt230.2.2.2.2.2.2.2.2.2.2.2.2.2.1, bt230.2.2.2.2.2.2.2.2.2.2.2.2.2.2.1, bt230.2.2.2.2.2.2.2.2.2.2.2.2.2.2.2.1, bt230.2.2.2.2.2.2.2.2.2.2.2.2.2.2.2.2.1, bt230.2.2.2.2.2.2.2.2.2.2.2.2.2.2.2.2.2.1, bt230.2.2.2.2.2.2.2.2.2.2.2.2.2.2.2.2.2.2.1, bt230.2.2.2.2.2.2.2.2.2.2.2.2.2.2.2.2.2.2.2.1, bt230.2.2.2.2.2.2.2.2.2.2.2.2.2.2.2.2.2.2.2.2.1, bt230.2.2.2.2.2.2.2.2.2.2.2.2.2.2.2.2.2.2.2.2.2.1, bt230.2.2.2.2.2.2.2.2.2.2.2.2.2.2.2.2.2.2.2.2.2.2.1, bt230.2.2.2.2.2.2.2.2.2.2.2.2.2.2.2.2.2.2.2.2.2.2.2.1, bt230.2.2.2.2.2.2.2.2.2.2.2.2.2.2.2.2.2.2.2.2.2.2.2.2.1, bt230.2.2.2.2.2.2.2.2.2.2.2.2.2.2.2.2.2.2.2.2.2.2.2.2.2.1, bt230.2.2.2.2.2.2.2.2.2.2.2.2.2.2.2.2.2.2.2.2.2.2.2.2.2.2)))) else (none)) else (none))) else (none)) else (none))
end
def salvorref22_words.f (k : Nat) (s0_0 s0_1 s0_2 s0_3 s0_4 s0_5 s0_6 s0_7 : Bool) (s0_8 : Int) (s0_9 s0_10 : ByteArray) (s0_11 s0_12 s0_13 s0_14 s0_15 : Int) (s0_16 s0_17 s0_18 s0_19 s0_20 s0_21 s0_22 s0_23 s0_24 s0_25 : Bool) (l1 : List (S68)) : Option (Bool × Bool × Bool × Bool × Bool × Bool × Bool × Bool × Bool × Int × ByteArray × ByteArray × Int × Int × Int × Int × Int × Bool × Bool × Bool × Bool × Bool × Bool × Bool × Bool × Bool × Bool) := salvorref22_words.l0 k l1 0 s0_0 s0_1 s0_2 s0_3 s0_4 s0_5 s0_6 s0_7 s0_8 s0_9 s0_10 s0_11 s0_12 s0_13 s0_14 s0_15 s0_16 s0_17 s0_18 s0_19 s0_20 s0_21 s0_22 s0_23 s0_24 s0_25
theorem salvorref22_words.mono_l : ∀ k, (∀ y0 y1 y2 y3 y4 y5 y6 y7 y8 y9 y10 y11 y12 y13 y14 y15 y16 y17 y18 y19 y20 y21 y22 y23 y24 y25 y26 y27, LeO (salvorref22_words.l0 k y0 y1 y2 y3 y4 y5 y6 y7 y8 y9 y10 y11 y12 y13 y14 y15 y16 y17 y18 y19 y20 y21 y22 y23 y24 y25 y26 y27) (salvorref22_words.l0 (k + 1) y0 y1 y2 y3 y4 y5 y6 y7 y8 y9 y10 y11 y12 y13 y14 y15 y16 y17 y18 y19 y20 y21 y22 y23 y24 y25 y26 y27)) ∧ (∀ y0 y1 y2 y3 y4 y5 y6 y7 y8 y9 y10 y11 y12 y13 y14 y15 y16 y17 y18 y19 y20 y21 y22 y23 y24 y25 y26 y27 y28, LeO (salvorref22_words.j1 k y0 y1 y2 y3 y4 y5 y6 y7 y8 y9 y10 y11 y12 y13 y14 y15 y16 y17 y18 y19 y20 y21 y22 y23 y24 y25 y26 y27 y28) (salvorref22_words.j1 (k + 1) y0 y1 y2 y3 y4 y5 y6 y7 y8 y9 y10 y11 y12 y13 y14 y15 y16 y17 y18 y19 y20 y21 y22 y23 y24 y25 y26 y27 y28)) ∧ (∀ y0 y1 y2 y3 y4 y5 y6 y7 y8 y9 y10 y11 y12 y13 y14 y15 y16 y17 y18 y19 y20 y21 y22 y23 y24 y25 y26 y27 y28 y29, LeO (salvorref22_words.l1 k y0 y1 y2 y3 y4 y5 y6 y7 y8 y9 y10 y11 y12 y13 y14 y15 y16 y17 y18 y19 y20 y21 y22 y23 y24 y25 y26 y27 y28 y29) (salvorref22_words.l1 (k + 1) y0 y1 y2 y3 y4 y5 y6 y7 y8 y9 y10 y11 y12 y13 y14 y15 y16 y17 y18 y19 y20 y21 y22 y23 y24 y25 y26 y27 y28 y29)) ∧ (∀ y0 y1 y2 y3 y4 y5 y6 y7 y8 y9 y10 y11 y12 y13 y14 y15 y16 y17 y18 y19 y20 y21 y22 y23 y24 y25 y26 y27 y28 y29 y30, LeO (salvorref22_words.j3 k y0 y1 y2 y3 y4 y5 y6 y7 y8 y9 y10 y11 y12 y13 y14 y15 y16 y17 y18 y19 y20 y21 y22 y23 y24 y25 y26 y27 y28 y29 y30) (salvorref22_words.j3 (k + 1) y0 y1 y2 y3 y4 y5 y6 y7 y8 y9 y10 y11 y12 y13 y14 y15 y16 y17 y18 y19 y20 y21 y22 y23 y24 y25 y26 y27 y28 y29 y30))
 | 0 => ⟨fun _ _ _ _ _ _ _ _ _ _ _ _ _ _ _ _ _ _ _ _ _ _ _ _ _ _ _ _ r h => by simp [salvorref22_words.l0] at h, fun _ _ _ _ _ _ _ _ _ _ _ _ _ _ _ _ _ _ _ _ _ _ _ _ _ _ _ _ _ r h => by simp [salvorref22_words.j1] at h, fun _ _ _ _ _ _ _ _ _ _ _ _ _ _ _ _ _ _ _ _ _ _ _ _ _ _ _ _ _ _ r h => by simp [salvorref22_words.l1] at h, fun _ _ _ _ _ _ _ _ _ _ _ _ _ _ _ _ _ _ _ _ _ _ _ _ _ _ _ _ _ _ _ r h => by simp [salvorref22_words.j3] at h⟩
 | k + 1 => by
  obtain ⟨ih0, ih1, ih2, ih3⟩ := salvorref22_words.mono_l k
  refine ⟨?_, ?_, ?_, ?_⟩
  ·intro y0 y1 y2 y3 y4 y5 y6 y7 y8 y9 y10 y11 y12 y13 y14 y15 y16 y17 y18 y19 y20 y21 y22 y23 y24 y25 y26 y27
   unfold salvorref22_words.l0
   repeat' first
   | (with_reducible exact ih0 _ _ _ _ _ _ _ _ _ _ _ _ _ _ _ _ _ _ _ _ _ _ _ _ _ _ _ _)
   | (with_reducible exact ih1 _ _ _ _ _ _ _ _ _ _ _ _ _ _ _ _ _ _ _ _ _ _ _ _ _ _ _ _ _)
   | (with_reducible exact ih2 _ _ _ _ _ _ _ _ _ _ _ _ _ _ _ _ _ _ _ _ _ _ _ _ _ _ _ _ _ _)
   | (with_reducible exact ih3 _ _ _ _ _ _ _ _ _ _ _ _ _ _ _ _ _ _ _ _ _ _ _ _ _ _ _ _ _ _ _)
   | (with_reducible exact salvorref6_Words.mono _ _ _)
   | (with_reducible exact LeO.refl _)
   | (with_reducible exact LeO.none _)
   | (with_reducible refine LeO.ite ?_ ?_)
   | (with_reducible refine LeO.bind ?_ (fun _ => ?_))
   | refine LeO.bind ?_ (fun _ => ?_)
  ·intro y0 y1 y2 y3 y4 y5 y6 y7 y8 y9 y10 y11 y12 y13 y14 y15 y16 y17 y18 y19 y20 y21 y22 y23 y24 y25 y26 y27 y28
   unfold salvorref22_words.j1
   repeat' first
   | (with_reducible exact ih0 _ _ _ _ _ _ _ _ _ _ _ _ _ _ _ _ _ _ _ _ _ _ _ _ _ _ _ _)
   | (with_reducible exact ih1 _ _ _ _ _ _ _ _ _ _ _ _ _ _ _ _ _ _ _ _ _ _ _ _ _ _ _ _ _)
   | (with_reducible exact ih2 _ _ _ _ _ _ _ _ _ _ _ _ _ _ _ _ _ _ _ _ _ _ _ _ _ _ _ _ _ _)
   | (with_reducible exact ih3 _ _ _ _ _ _ _ _ _ _ _ _ _ _ _ _ _ _ _ _ _ _ _ _ _ _ _ _ _ _ _)
   | (with_reducible exact salvorref6_Words.mono _ _ _)
   | (with_reducible exact LeO.refl _)
   | (with_reducible exact LeO.none _)
   | (with_reducible refine LeO.ite ?_ ?_)
   | (with_reducible refine LeO.bind ?_ (fun _ => ?_))
   | refine LeO.bind ?_ (fun _ => ?_)
  ·intro y0 y1 y2 y3 y4 y5 y6 y7 y8 y9 y10 y11 y12 y13 y14 y15 y16 y17 y18 y19 y20 y21 y22 y23 y24 y25 y26 y27 y28 y29
   unfold salvorref22_words.l1
   repeat' first
   | (with_reducible exact ih0 _ _ _ _ _ _ _ _ _ _ _ _ _ _ _ _ _ _ _ _ _ _ _ _ _ _ _ _)
   | (with_reducible exact ih1 _ _ _ _ _ _ _ _ _ _ _ _ _ _ _ _ _ _ _ _ _ _ _ _ _ _ _ _ _)
   | (with_reducible exact ih2 _ _ _ _ _ _ _ _ _ _ _ _ _ _ _ _ _ _ _ _ _ _ _ _ _ _ _ _ _ _)
   | (with_reducible exact ih3 _ _ _ _ _ _ _ _ _ _ _ _ _ _ _ _ _ _ _ _ _ _ _ _ _ _ _ _ _ _ _)
   | (with_reducible exact salvorref6_Words.mono _ _ _)
   | (with_reducible exact LeO.refl _)
   | (with_reducible exact LeO.none _)
   | (with_reducible refine LeO.ite ?_ ?_)
   | (with_reducible refine LeO.bind ?_ (fun _ => ?_))
   | refine LeO.bind ?_ (fun _ => ?_)
  ·intro y0 y1 y2 y3 y4 y5 y6 y7 y8 y9 y10 y11 y12 y13 y14 y15 y16 y17 y18 y19 y20 y21 y22 y23 y24 y25 y26 y27 y28 y29 y30
   unfold salvorref22_words.j3
   repeat' first
   | (with_reducible exact ih0 _ _ _ _ _ _ _ _ _ _ _ _ _ _ _ _ _ _ _ _ _ _ _ _ _ _ _ _)
   | (with_reducible exact ih1 _ _ _ _ _ _ _ _ _ _ _ _ _ _ _ _ _ _ _ _ _ _ _ _ _ _ _ _ _)
   | (with_reducible exact ih2 _ _ _ _ _ _ _ _ _ _ _ _ _ _ _ _ _ _ _ _ _ _ _ _ _ _ _ _ _ _)
   | (with_reducible exact ih3 _ _ _ _ _ _ _ _ _ _ _ _ _ _ _ _ _ _ _ _ _ _ _ _ _ _ _ _ _ _ _)
   | (with_reducible exact salvorref6_Words.mono _ _ _)
   | (with_reducible exact LeO.refl _)
   | (with_reducible exact LeO.none _)
   | (with_reducible refine LeO.ite ?_ ?_)
   | (with_reducible refine LeO.bind ?_ (fun _ => ?_))
   | refine LeO.bind ?_ (fun _ => ?_)
theorem salvorref22_words.mono : ∀ a0 a1 a2 a3 a4 a5 a6 a7 a8 a9 a10 a11 a12 a13 a14 a15 a16 a17 a18 a19 a20 a21 a22 a23 a24 a25 a26 k, LeO (salvorref22_words.f k a0 a1 a2 a3 a4 a5 a6 a7 a8 a9 a10 a11 a12 a13 a14 a15 a16 a17 a18 a19 a20 a21 a22 a23 a24 a25 a26) (salvorref22_words.f (k + 1) a0 a1 a2 a3 a4 a5 a6 a7 a8 a9 a10 a11 a12 a13 a14 a15 a16 a17 a18 a19 a20 a21 a22 a23 a24 a25 a26) := by
 intro a0 a1 a2 a3 a4 a5 a6 a7 a8 a9 a10 a11 a12 a13 a14 a15 a16 a17 a18 a19 a20 a21 a22 a23 a24 a25 a26 k
 obtain ⟨ih0, ih1, ih2, ih3⟩ := salvorref22_words.mono_l k
 unfold salvorref22_words.f
 repeat' first
   | (with_reducible exact ih0 _ _ _ _ _ _ _ _ _ _ _ _ _ _ _ _ _ _ _ _ _ _ _ _ _ _ _ _)
   | (with_reducible exact ih1 _ _ _ _ _ _ _ _ _ _ _ _ _ _ _ _ _ _ _ _ _ _ _ _ _ _ _ _ _)
   | (with_reducible exact ih2 _ _ _ _ _ _ _ _ _ _ _ _ _ _ _ _ _ _ _ _ _ _ _ _ _ _ _ _ _ _)
   | (with_reducible exact ih3 _ _ _ _ _ _ _ _ _ _ _ _ _ _ _ _ _ _ _ _ _ _ _ _ _ _ _ _ _ _ _)
   | (with_reducible exact salvorref6_Words.mono _ _ _)
   | (with_reducible exact LeO.refl _)
   | (with_reducible exact LeO.none _)
   | (with_reducible refine LeO.ite ?_ ?_)
   | (with_reducible refine LeO.bind ?_ (fun _ => ?_))
   | refine LeO.bind ?_ (fun _ => ?_)
set_option maxHeartbeats 8000000 in
set_option maxRecDepth 100000 in
theorem salvorref22_words.calls (k g : Nat) (s0_0 s0_1 s0_2 s0_3 s0_4 s0_5 s0_6 s0_7 : Bool) (s0_8 : Int) (s0_9 s0_10 : ByteArray) (s0_11 s0_12 s0_13 s0_14 s0_15 : Int) (s0_16 s0_17 s0_18 s0_19 s0_20 s0_21 s0_22 s0_23 s0_24 s0_25 : Bool) (A1 : Option Addr) (c1 : Nat) (l1 : List (S68)) (r1 r2 r3 r4 r5 r6 r7 r8 r9 : Bool) (r10 : Int) (r11 r12 : ByteArray) (r13 r14 r15 r16 r17 : Int) (r18 r19 r20 r21 r22 r23 r24 r25 r26 r27 : Bool) (w0 w : World) (hI : IsS28 w0 w g s0_0 s0_1 s0_2 s0_3 s0_4 s0_5 s0_6 s0_7 s0_8 s0_9 s0_10 s0_11 s0_12 s0_13 s0_14 s0_15 s0_16 s0_17 s0_18 s0_19 s0_20 s0_21 s0_22 s0_23 s0_24 s0_25) (hB : Below w0.heap.size w0 w) (hr1 : ∀ W_, KeepBut w W_ g none → Kd.C k68 W_ A1 l1.length l1) (hc1 : l1.length ≤ c1) (h : salvorref22_words.f k s0_0 s0_1 s0_2 s0_3 s0_4 s0_5 s0_6 s0_7 s0_8 s0_9 s0_10 s0_11 s0_12 s0_13 s0_14 s0_15 s0_16 s0_17 s0_18 s0_19 s0_20 s0_21 s0_22 s0_23 s0_24 s0_25 l1 = some (r1, r2, r3, r4, r5, r6, r7, r8, r9, r10, r11, r12, r13, r14, r15, r16, r17, r18, r19, r20, r21, r22, r23, r24, r25, r26, r27)) :
  Calls Tryz.prog 22 #[.pointer (some ⟨g, 0, none⟩), .slice A1 l1.length c1] w fun e w' => e = .returned (.bool r1) ∧ IsS28 w0 w' g r2 r3 r4 r5 r6 r7 r8 r9 r10 r11 r12 r13 r14 r15 r16 r17 r18 r19 r20 r21 r22 r23 r24 r25 r26 r27 ∧ Below w0.heap.size w0 w' ∧ KeepBut w w' g none := by
 have HR1 := Aside0.mk hr1
 have HC1 := Aside0.mk hc1
 clear hr1 hc1
 have HI0 := Aside0.mk hI
 have HK := Aside0.mk (KeepBut.refl w g none)
 have HL := Aside0.mk hB.size
 clear hI
 have HW0 := Aside0.mk hB.size
 have HB := Aside0.mk hB
 clear hB
 have H : (salvorref22_words.l0 k l1 0 s0_0 s0_1 s0_2 s0_3 s0_4 s0_5 s0_6 s0_7 s0_8 s0_9 s0_10 s0_11 s0_12 s0_13 s0_14 s0_15 s0_16 s0_17 s0_18 s0_19 s0_20 s0_21 s0_22 s0_23 s0_24 s0_25) = some (r1, r2, r3, r4, r5, r6, r7, r8, r9, r10, r11, r12, r13, r14, r15, r16, r17, r18, r19, r20, r21, r22, r23, r24, r25, r26, r27) := h
 clear h
 have H' := Aside0.mk H
 clear H
 go_enter Tryz.func22, Tryz.ntmps22
 go_wp2
 go_loopg [5] k (fun kq v5 w' => ∃ (x5_1 : Int) (x1000_1 x1001_1 x1002_1 x1003_1 x1004_1 x1005_1 x1006_1 x1007_1 : Bool) (x1008_1 : Int) (x1009_1 x1010_1 : ByteArray) (x1011_1 x1012_1 x1013_1 x1014_1 x1015_1 : Int) (x1016_1 x1017_1 x1018_1 x1019_1 x1020_1 x1021_1 x1022_1 x1023_1 x1024_1 x1025_1 : Bool), v5 = .int .i64 x5_1 ∧ Aside0 (salvorref22_words.l0 kq l1 x5_1 x1000_1 x1001_1 x1002_1 x1003_1 x1004_1 x1005_1 x1006_1 x1007_1 x1008_1 x1009_1 x1010_1 x1011_1 x1012_1 x1013_1 x1014_1 x1015_1 x1016_1 x1017_1 x1018_1 x1019_1 x1020_1 x1021_1 x1022_1 x1023_1 x1024_1 x1025_1 = some (r1, r2, r3, r4, r5, r6, r7, r8, r9, r10, r11, r12, r13, r14, r15, r16, r17, r18, r19, r20, r21, r22, r23, r24, r25, r26, r27)) ∧ Aside0 (kq ≤ k) ∧ Aside0 (IsS28 w0 w' g x1000_1 x1001_1 x1002_1 x1003_1 x1004_1 x1005_1 x1006_1 x1007_1 x1008_1 x1009_1 x1010_1 x1011_1 x1012_1 x1013_1 x1014_1 x1015_1 x1016_1 x1017_1 x1018_1 x1019_1 x1020_1 x1021_1 x1022_1 x1023_1 x1024_1 x1025_1) ∧ Aside0 (KeepBut w w' g none) ∧ Aside0 (Below w0.heap.size w0 w'))
 case atStart => exact ⟨(0), (s0_0), (s0_1), (s0_2), (s0_3), (s0_4), (s0_5), (s0_6), (s0_7), (s0_8), (s0_9), (s0_10), (s0_11), (s0_12), (s0_13), (s0_14), (s0_15), (s0_16), (s0_17), (s0_18), (s0_19), (s0_20), (s0_21), (s0_22), (s0_23), (s0_24), (s0_25), (by first | rfl | (simp; done) | (simp [*]; done)), H', ⟨Nat.le_refl _⟩, ⟨by repeat (first | (with_reducible first | exact HI0.out | apply IsS28.alloc | apply IsS28.drewN | apply IsS28.drew | apply IsS28.set_18) | exact HI0.out)⟩, ⟨by repeat (first | (with_reducible first | exact HK.out | apply KeepBut.set_ | apply keep_drewN | apply keep_drew | apply keep_alloc) | exact HK.out)⟩, ⟨by repeat (first | (with_reducible first | exact HB.out | apply below_alloc | apply pw_below_drewN | apply below_drew1 | refine below_set ?_ (IsS28.ge HI0.out)) | exact HB.out)⟩⟩
 case round =>
  clear H'
  try clear c1
  try clear c2
  try clear p2
  obtain ⟨x5_1, x1000_1, x1001_1, x1002_1, x1003_1, x1004_1, x1005_1, x1006_1, x1007_1, x1008_1, x1009_1, x1010_1, x1011_1, x1012_1, x1013_1, x1014_1, x1015_1, x1016_1, x1017_1, x1018_1, x1019_1, x1020_1, x1021_1, x1022_1, x1023_1, x1024_1, x1025_1, rfl, HA, HK1, HI0, HK, HB⟩ := hrel
  cases gk with
  | zero => exact absurd HA.out (by simp [salvorref22_words.l0])
  | succ k1 =>
   have H := HA.out
   clear HA
   simp only [salvorref22_words.l0] at H
   by_cases c3 : x5_1 < (l1.length : Int)
   ·rw [if_pos c3] at H
    have c3b0 : decide (x5_1 < (l1.length : Int)) = true := decide_eq_true c3
    clear c3
    have HC4 := Aside0.mk H
    clear H
    go_upto_region 4 with (fail)
    go_cut [27] (fun v27 wc => ∃ (kq : Nat) (x27_3 : Bool), v27 = .bool x27_3 ∧ Aside0 (salvorref22_words.j1 kq l1 x5_1 x27_3 x1000_1 x1001_1 x1002_1 x1003_1 x1004_1 x1005_1 x1006_1 x1007_1 x1008_1 x1009_1 x1010_1 x1011_1 x1012_1 x1013_1 x1014_1 x1015_1 x1016_1 x1017_1 x1018_1 x1019_1 x1020_1 x1021_1 x1022_1 x1023_1 x1024_1 x1025_1 = some (r1, r2, r3, r4, r5, r6, r7, r8, r9, r10, r11, r12, r13, r14, r15, r16, r17, r18, r19, r20, r21, r22, r23, r24, r25, r26, r27)) ∧ Aside0 (kq ≤ k1) ∧ Aside0 (IsS28 w0 wc g x1000_1 x1001_1 x1002_1 x1003_1 x1004_1 x1005_1 x1006_1 x1007_1 x1008_1 x1009_1 x1010_1 x1011_1 x1012_1 x1013_1 x1014_1 x1015_1 x1016_1 x1017_1 x1018_1 x1019_1 x1020_1 x1021_1 x1022_1 x1023_1 x1024_1 x1025_1) ∧ Aside0 (KeepBut w wc g none) ∧ Aside0 (Below w0.heap.size w0 wc))
    case first =>
     have H := HC4.out
     clear HC4
     by_cases c5 : 0 ≤ x5_1
     ·rw [if_pos c5] at H
      have c5b0 : decide (0 ≤ x5_1) = true := decide_eq_true c5
      clear c5
      (first | rw [c5b0] | (simp only [i64_w, i32_w]; rw [c5b0]) | skip)
      by_cases c6 : ((rd_T68 l1 x5_1).f0).toList = ([99, 111, 110, 118] : List UInt8)
      ·rw [if_pos c6] at H
       have c6b0 : (((rd_T68 l1 x5_1).f0).toList == ([99, 111, 110, 118] : List UInt8)) = true := beq_iff_eq.mpr c6
       have c6b1 : (((rd_T68 l1 x5_1).f0).toList != ([99, 111, 110, 118] : List UInt8)) = false := bne_eq_false_iff_eq.mpr c6
       clear c6
       have H' := Aside0.mk H
       clear H
       have p220 : 0 ≤ (x5_1 : Int) := of_decide_eq_true (by first | (with_reducible assumption) | assumption)
       have q220 : x5_1 < (l1.length : Int) := of_decide_eq_true (by first | (with_reducible assumption) | assumption)
       obtain ⟨ad220, e220, hx220_0, hx220_1⟩ := at_T68 (Kd.C_foot_now HR1.out HK.out) x5_1 p220 q220
       cases e220
       replace p220 := eq_true p220
       replace q220 := eq_true q220
       go_wp2
       go_meet
       case rel => exact ⟨_, (false), (by first | rfl | (simp; done) | (simp [*]; done)), H', ⟨by have := HK1.out; first | omega | exact Nat.le_refl _⟩, ⟨by repeat (first | (with_reducible first | exact HI0.out | apply IsS28.alloc | apply IsS28.drewN | apply IsS28.drew | apply IsS28.set_18) | exact HI0.out)⟩, ⟨by repeat (first | (with_reducible first | exact HK.out | apply KeepBut.set_ | apply keep_drewN | apply keep_drew | apply keep_alloc) | exact HK.out)⟩, ⟨by repeat (first | (with_reducible first | exact HB.out | apply below_alloc | apply pw_below_drewN | apply below_drew1 | refine below_set ?_ (IsS28.ge HI0.out)) | exact HB.out)⟩⟩
      ·rw [if_neg c6] at H
       have c6b0 : (((rd_T68 l1 x5_1).f0).toList == ([99, 111, 110, 118] : List UInt8)) = false := beq_eq_false_iff_ne.mpr c6
       have c6b1 : (((rd_T68 l1 x5_1).f0).toList != ([99, 111, 110, 118] : List UInt8)) = true := bne_iff_ne.mpr c6
       have H' := Aside0.mk H
       clear H
       have p220 : 0 ≤ (x5_1 : Int) := of_decide_eq_true (by first | (with_reducible assumption) | assumption)
       have q220 : x5_1 < (l1.length : Int) := of_decide_eq_true (by first | (with_reducible assumption) | assumption)
       obtain ⟨ad220, e220, hx220_0, hx220_1⟩ := at_T68 (Kd.C_foot_now HR1.out HK.out) x5_1 p220 q220
       cases e220
       replace p220 := eq_true p220
       replace q220 := eq_true q220
       have p221 : 0 ≤ (x5_1 : Int) := of_decide_eq_true (by first | (with_reducible assumption) | assumption)
       have q221 : x5_1 < (l1.length : Int) := of_decide_eq_true (by first | (with_reducible assumption) | assumption)
       obtain ⟨ad221, e221, hx221_0, hx221_1⟩ := at_T68 (Kd.C_foot_now HR1.out HK.out) x5_1 p221 q221
       obtain rfl : ad220 = ad221 := (by injection e221)
       replace p221 := eq_true p221
       replace q221 := eq_true q221
       go_wp2
       go_meet
       case rel => exact ⟨_, ((((rd_T68 l1 x5_1).f0).toList != ([105, 102, 108, 97, 103] : List UInt8))), (by first | rfl | (simp; done) | (simp [*]; done)), H', ⟨by have := HK1.out; first | omega | exact Nat.le_refl _⟩, ⟨by repeat (first | (with_reducible first | exact HI0.out | apply IsS28.alloc | apply IsS28.drewN | apply IsS28.drew | apply IsS28.set_18) | exact HI0.out)⟩, ⟨by repeat (first | (with_reducible first | exact HK.out | apply KeepBut.set_ | apply keep_drewN | apply keep_drew | apply keep_alloc) | exact HK.out)⟩, ⟨by repeat (first | (with_reducible first | exact HB.out | apply below_alloc | apply pw_below_drewN | apply below_drew1 | refine below_set ?_ (IsS28.ge HI0.out)) | exact HB.out)⟩⟩
     ·rw [if_neg c5] at H
      exact absurd H (by simp)
    case rest =>
     clear HC4
     try clear c1
     try clear c2
     try clear p2
     try clear q2
     try clear hx2
     try clear c3
     try clear c3b0
     try clear c5
     try clear c5b0
     try clear c6
     try clear c6b0
     try clear c6b1
     try clear hx220_0
     try clear hx220_1
     try clear hx221_0
     try clear hx221_1
     try clear p2
     try clear p220
     try clear p221
     try clear q220
     try clear q221
     obtain ⟨kq, x27_3, rfl, HA, HJ3, HI0, HK, HB⟩ := hcut
     cases kq with
     | zero => exact absurd HA.out (by simp [salvorref22_words.j1])
     | succ kj3 =>
      have H := HA.out
      clear HA
      simp only [salvorref22_words.j1] at H
      by_cases c7 : x27_3 = true
      ·subst c7
       have H1 := H; rw [if_pos rfl] at H1
       clear H
       have H := H1
       clear H1
       have H' := Aside0.mk H
       clear H
       go_wp2
       go_roundg kj3
       case measure => have := HK1.out; have := HJ3.out; omega
       case rel => exact ⟨(wrap64 (x5_1 + 1)), (x1000_1), (x1001_1), (x1002_1), (x1003_1), (x1004_1), (x1005_1), (x1006_1), (x1007_1), (x1008_1), (x1009_1), (x1010_1), (x1011_1), (x1012_1), (x1013_1), (x1014_1), (x1015_1), (x1016_1), (x1017_1), (x1018_1), (x1019_1), (x1020_1), (x1021_1), (x1022_1), (x1023_1), (x1024_1), (x1025_1), (by first | rfl | (simp; done) | (simp [*]; done)), H', ⟨by have := HK1.out; have := HJ3.out; omega⟩, ⟨by repeat (first | (with_reducible first | exact HI0.out | apply IsS28.alloc | apply IsS28.drewN | apply IsS28.drew | apply IsS28.set_18) | exact HI0.out)⟩, ⟨by repeat (first | (with_reducible first | exact HK.out | apply KeepBut.set_ | apply keep_drewN | apply keep_drew | apply keep_alloc) | exact HK.out)⟩, ⟨by repeat (first | (with_reducible first | exact HB.out | apply below_alloc | apply pw_below_drewN | apply below_drew1 | refine below_set ?_ (IsS28.ge HI0.out)) | exact HB.out)⟩⟩
      ·replace c7 := Bool.eq_false_iff.mpr c7
       subst c7
       have H1 : (if 0 ≤ x5_1 then (if x5_1 < (l1.length : Int) then ((salvorref6_Words.f kj3 ((rd_T68 l1 x5_1).f1) 44).bind fun t223 => (salvorref22_words.l1 kj3 l1 x5_1 t223 0 x1000_1 x1001_1 x1002_1 x1003_1 x1004_1 x1005_1 x1006_1 x1007_1 x1008_1 x1009_1 x1010_1 x1011_1 x1012_1 x1013_1 x1014_1 x1015_1 x1016_1 x1017_1 x1018_1 x1019_1 x1020_1 x1021_1 x1022_1 x1023_1 x1024_1 x1025_1)) else (none)) else (none)) = some (r1, r2, r3, r4, r5, r6, r7, r8, r9, r10, r11, r12, r13, r14, r15, r16, r17, r18, r19, r20, r21, r22, r23, r24, r25, r26, r27) := by rw [if_neg (show ¬ (false = true) by decide)] at H; exact H
       clear H
       have H := H1
       clear H1
       by_cases c8 : 0 ≤ x5_1
       ·rw [if_pos c8] at H
        have c8b0 : decide (0 ≤ x5_1) = true := decide_eq_true c8
        clear c8
        by_cases c9 : x5_1 < (l1.length : Int)
        ·rw [if_pos c9] at H
         have c9b0 : decide (x5_1 < (l1.length : Int)) = true := decide_eq_true c9
         clear c9
         replace H := Option.bind_eq_some_iff.mp H
         obtain ⟨t223, A100, H⟩ := H
         replace H : (salvorref22_words.l1 kj3 l1 x5_1 t223 0 x1000_1 x1001_1 x1002_1 x1003_1 x1004_1 x1005_1 x1006_1 x1007_1 x1008_1 x1009_1 x1010_1 x1011_1 x1012_1 x1013_1 x1014_1 x1015_1 x1016_1 x1017_1 x1018_1 x1019_1 x1020_1 x1021_1 x1022_1 x1023_1 x1024_1 x1025_1) = some (r1, r2, r3, r4, r5, r6, r7, r8, r9, r10, r11, r12, r13, r14, r15, r16, r17, r18, r19, r20, r21, r22, r23, r24, r25, r26, r27) := H
         have A10 := Aside0.mk A100
         clear A100
         have H' := Aside0.mk H
         clear H
         have p222 : 0 ≤ (x5_1 : Int) := of_decide_eq_true (by first | (with_reducible assumption) | assumption)
         have q222 : x5_1 < (l1.length : Int) := of_decide_eq_true (by first | (with_reducible assumption) | assumption)
         obtain ⟨ad222, e222, hx222_0, hx222_1⟩ := at_T68 (Kd.C_foot_now HR1.out HK.out) x5_1 p222 q222
         cases e222
         replace p222 := eq_true p222
         replace q222 := eq_true q222
         go_wp2_with (first | ((with_reducible refine gate_callee (f := 47) rfl ?_); refine gl_ (some 33) rfl rfl Tryz.func47 (by kernel_rfl) rfl #[.string ((rd_T68 l1 x5_1).f1), .int .u8 44] rfl ?_; (with_reducible refine (salvorref6_Words.calls kj3 ((rd_T68 l1 x5_1).f1) 44 t223 _ A10.out).mono ?_); rintro e w11 ⟨v224, rfl, ho0, hb⟩; refine ⟨_, rfl, ?_⟩; have HO225 := Aside0.mk (Kd.R_lower ho0 (keep_size (w := w) (g := g) (row := none) (by repeat (first | (with_reducible first | exact HK.out | apply KeepBut.set_ | apply keep_drewN | apply keep_drew | apply keep_alloc) | exact HK.out)))); replace HK := Aside0.mk (KeepBut.trans (by repeat (first | (with_reducible first | exact HK.out | apply KeepBut.set_ | apply keep_drewN | apply keep_drew | apply keep_alloc) | exact HK.out)) (KeepBut.of_below hb g none) (.inl rfl)); replace HB := Aside0.mk (below_step (by repeat (first | (with_reducible first | exact HB.out | apply below_alloc | apply pw_below_drewN | apply below_drew1 | refine below_set ?_ (IsS28.ge HI0.out)) | exact HB.out)) hb); replace HI0 := Aside0.mk (IsS28.below (by repeat (first | (with_reducible first | exact HI0.out | apply IsS28.alloc | apply IsS28.drewN | apply IsS28.drew | apply IsS28.set_18) | exact HI0.out)) hb); (try clear hb); (try clear hb2); (try clear hk); (try clear hi); (try clear ho0)))
         go_loopg [7] kj3 (fun kq v7 w' => ∃ (x7_3 : Int) (x1000_3 x1001_3 x1002_3 x1003_3 x1004_3 x1005_3 x1006_3 x1007_3 : Bool) (x1008_3 : Int) (x1009_3 x1010_3 : ByteArray) (x1011_3 x1012_3 x1013_3 x1014_3 x1015_3 : Int) (x1016_3 x1017_3 x1018_3 x1019_3 x1020_3 x1021_3 x1022_3 x1023_3 x1024_3 x1025_3 : Bool), v7 = .int .i64 x7_3 ∧ Aside0 (salvorref22_words.l1 kq l1 x5_1 t223 x7_3 x1000_3 x1001_3 x1002_3 x1003_3 x1004_3 x1005_3 x1006_3 x1007_3 x1008_3 x1009_3 x1010_3 x1011_3 x1012_3 x1013_3 x1014_3 x1015_3 x1016_3 x1017_3 x1018_3 x1019_3 x1020_3 x1021_3 x1022_3 x1023_3 x1024_3 x1025_3 = some (r1, r2, r3, r4, r5, r6, r7, r8, r9, r10, r11, r12, r13, r14, r15, r16, r17, r18, r19, r20, r21, r22, r23, r24, r25, r26, r27)) ∧ Aside0 (kq ≤ kj3) ∧ Aside0 (Kd.R Kd.string 9 w' w.heap.size (fun _ => True) v224 t223) ∧ Aside0 (IsS28 w0 w' g x1000_3 x1001_3 x1002_3 x1003_3 x1004_3 x1005_3 x1006_3 x1007_3 x1008_3 x1009_3 x1010_3 x1011_3 x1012_3 x1013_3 x1014_3 x1015_3 x1016_3 x1017_3 x1018_3 x1019_3 x1020_3 x1021_3 x1022_3 x1023_3 x1024_3 x1025_3) ∧ Aside0 (KeepBut w w' g none) ∧ Aside0 (Below w0.heap.size w0 w'))
         case atStart => exact ⟨(0), (x1000_1), (x1001_1), (x1002_1), (x1003_1), (x1004_1), (x1005_1), (x1006_1), (x1007_1), (x1008_1), (x1009_1), (x1010_1), (x1011_1), (x1012_1), (x1013_1), (x1014_1), (x1015_1), (x1016_1), (x1017_1), (x1018_1), (x1019_1), (x1020_1), (x1021_1), (x1022_1), (x1023_1), (x1024_1), (x1025_1), (by first | rfl | (simp; done) | (simp [*]; done)), H', ⟨Nat.le_refl _⟩, ⟨by (with_reducible repeat (first | apply Kd.R_alloc | apply Kd.R_drewN | apply Kd.R_drew)); exact HO225.out⟩, ⟨by repeat (first | (with_reducible first | exact HI0.out | apply IsS28.alloc | apply IsS28.drewN | apply IsS28.drew | apply IsS28.set_18) | exact HI0.out)⟩, ⟨by repeat (first | (with_reducible first | exact HK.out | apply KeepBut.set_ | apply keep_drewN | apply keep_drew | apply keep_alloc) | exact HK.out)⟩, ⟨by repeat (first | (with_reducible first | exact HB.out | apply below_alloc | apply pw_below_drewN | apply below_drew1 | refine below_set ?_ (IsS28.ge HI0.out)) | exact HB.out)⟩⟩
         case round =>
          clear H'
          try clear c1
          try clear c2
          try clear p2
          try clear q2
          try clear hx2
          try clear c3
          try clear c3b0
          try clear c4
          try clear c5
          try clear c5b0
          try clear c6
          try clear c6b0
          try clear c6b1
          try clear p6
          try clear c7
          try clear c8
          try clear c8b0
          try clear c9
          try clear c9b0
          try clear hx220_0
          try clear hx220_1
          try clear hx221_0
          try clear hx221_1
          try clear hx222_0
          try clear hx222_1
          try clear p2
          try clear p220
          try clear p221
          try clear p222
          try clear q2
          try clear q220
          try clear q221
          try clear q222
          obtain ⟨x7_3, x1000_3, x1001_3, x1002_3, x1003_3, x1004_3, x1005_3, x1006_3, x1007_3, x1008_3, x1009_3, x1010_3, x1011_3, x1012_3, x1013_3, x1014_3, x1015_3, x1016_3, x1017_3, x1018_3, x1019_3, x1020_3, x1021_3, x1022_3, x1023_3, x1024_3, x1025_3, rfl, HA, HK3, HO_6, HI0, HK, HB⟩ := hrel
          cases gk with
          | zero => exact absurd HA.out (by simp [salvorref22_words.l1])
          | succ k3 =>
           have H := HA.out
           clear HA
           simp only [salvorref22_words.l1] at H
           by_cases c12 : x7_3 < (t223.length : Int)
           ·rw [if_pos c12] at H
            have c12b0 : decide (x7_3 < (t223.length : Int)) = true := decide_eq_true c12
            clear c12
            have HC13 := Aside0.mk H
            clear H
            obtain ⟨Ao14, co14, eo14⟩ := Kd.R_slice HO_6.out
            subst eo14
            go_upto_region 9 with (fail)
            go_cut [52] (fun v52 wc => ∃ (kq : Nat) (x52_12 : Bool), v52 = .bool x52_12 ∧ Aside0 (salvorref22_words.j3 kq l1 x5_1 t223 x7_3 x52_12 x1000_3 x1001_3 x1002_3 x1003_3 x1004_3 x1005_3 x1006_3 x1007_3 x1008_3 x1009_3 x1010_3 x1011_3 x1012_3 x1013_3 x1014_3 x1015_3 x1016_3 x1017_3 x1018_3 x1019_3 x1020_3 x1021_3 x1022_3 x1023_3 x1024_3 x1025_3 = some (r1, r2, r3, r4, r5, r6, r7, r8, r9, r10, r11, r12, r13, r14, r15, r16, r17, r18, r19, r20, r21, r22, r23, r24, r25, r26, r27)) ∧ Aside0 (kq ≤ k3) ∧ Aside0 (Kd.R Kd.string 9 wc w.heap.size (fun _ => True) (.slice Ao14 t223.length co14) t223) ∧ Aside0 (IsS28 w0 wc g x1000_3 x1001_3 x1002_3 x1003_3 x1004_3 x1005_3 x1006_3 x1007_3 x1008_3 x1009_3 x1010_3 x1011_3 x1012_3 x1013_3 x1014_3 x1015_3 x1016_3 x1017_3 x1018_3 x1019_3 x1020_3 x1021_3 x1022_3 x1023_3 x1024_3 x1025_3) ∧ Aside0 (KeepBut w wc g none) ∧ Aside0 (Below w0.heap.size w0 wc))
            case first =>
             have H := HC13.out
             clear HC13
             by_cases c15 : 0 ≤ x5_1
             ·rw [if_pos c15] at H
              have c15b0 : decide (0 ≤ x5_1) = true := decide_eq_true c15
              clear c15
              (first | rw [c15b0] | (simp only [i64_w, i32_w]; rw [c15b0]) | skip)
              by_cases c16 : x5_1 < (l1.length : Int)
              ·rw [if_pos c16] at H
               have c16b0 : decide (x5_1 < (l1.length : Int)) = true := decide_eq_true c16
               clear c16
               by_cases c17 : ((rd_T68 l1 x5_1).f0).toList = ([105, 102, 108, 97, 103] : List UInt8)
               ·rw [if_pos c17] at H
                have c17b0 : (((rd_T68 l1 x5_1).f0).toList == ([105, 102, 108, 97, 103] : List UInt8)) = true := beq_iff_eq.mpr c17
                have c17b1 : (((rd_T68 l1 x5_1).f0).toList != ([105, 102, 108, 97, 103] : List UInt8)) = false := bne_eq_false_iff_eq.mpr c17
                clear c17
                by_cases c18 : 0 ≤ x7_3
                ·rw [if_pos c18] at H
                 have c18b0 : decide (0 ≤ x7_3) = true := decide_eq_true c18
                 clear c18
                 have H' := Aside0.mk H
                 clear H
                 have p226 : 0 ≤ (x5_1 : Int) := of_decide_eq_true (by first | (with_reducible assumption) | assumption)
                 have q226 : x5_1 < (l1.length : Int) := of_decide_eq_true (by first | (with_reducible assumption) | assumption)
                 obtain ⟨ad226, e226, hx226_0, hx226_1⟩ := at_T68 (Kd.C_foot_now HR1.out HK.out) x5_1 p226 q226
                 obtain rfl : ad222 = ad226 := (by injection e226)
                 replace p226 := eq_true p226
                 replace q226 := eq_true q226
                 have p227 : 0 ≤ (x7_3 : Int) := of_decide_eq_true (by first | (with_reducible assumption) | assumption)
                 have q227 : x7_3 < (t223.length : Int) := of_decide_eq_true (by first | (with_reducible assumption) | assumption)
                 obtain ⟨ad227, e227, hx227_0⟩ := Kd.at_string (Kd.R_reads' HO_6.out).2.2 x7_3 p227 q227
                 cases e227
                 replace p227 := eq_true p227
                 replace q227 := eq_true q227
                 go_wp2
                 go_meet
                 case rel => exact ⟨_, (((rdOf ByteArray.empty t223 x7_3).toList == ([102, 117, 108, 108, 98, 108, 111, 99, 107] : List UInt8))), (by first | rfl | (simp; done) | (simp [*]; done)), H', ⟨by have := HK1.out; have := HJ3.out; have := HK3.out; first | omega | exact Nat.le_refl _⟩, ⟨by (with_reducible repeat (first | apply Kd.R_alloc | apply Kd.R_drewN | apply Kd.R_drew)); exact HO_6.out⟩, ⟨by repeat (first | (with_reducible first | exact HI0.out | apply IsS28.alloc | apply IsS28.drewN | apply IsS28.drew | apply IsS28.set_18) | exact HI0.out)⟩, ⟨by repeat (first | (with_reducible first | exact HK.out | apply KeepBut.set_ | apply keep_drewN | apply keep_drew | apply keep_alloc) | exact HK.out)⟩, ⟨by repeat (first | (with_reducible first | exact HB.out | apply below_alloc | apply pw_below_drewN | apply below_drew1 | refine below_set ?_ (IsS28.ge HI0.out)) | exact HB.out)⟩⟩
                ·rw [if_neg c18] at H
                 exact absurd H (by simp)
               ·rw [if_neg c17] at H
                have c17b0 : (((rd_T68 l1 x5_1).f0).toList == ([105, 102, 108, 97, 103] : List UInt8)) = false := beq_eq_false_iff_ne.mpr c17
                have c17b1 : (((rd_T68 l1 x5_1).f0).toList != ([105, 102, 108, 97, 103] : List UInt8)) = true := bne_iff_ne.mpr c17
                have H' := Aside0.mk H
                clear H
                have p226 : 0 ≤ (x5_1 : Int) := of_decide_eq_true (by first | (with_reducible assumption) | assumption)
                have q226 : x5_1 < (l1.length : Int) := of_decide_eq_true (by first | (with_reducible assumption) | assumption)
                obtain ⟨ad226, e226, hx226_0, hx226_1⟩ := at_T68 (Kd.C_foot_now HR1.out HK.out) x5_1 p226 q226
                obtain rfl : ad222 = ad226 := (by injection e226)
                replace p226 := eq_true p226
                replace q226 := eq_true q226
                go_wp2
                go_meet
                case rel => exact ⟨_, (false), (by first | rfl | (simp; done) | (simp [*]; done)), H', ⟨by have := HK1.out; have := HJ3.out; have := HK3.out; first | omega | exact Nat.le_refl _⟩, ⟨by (with_reducible repeat (first | apply Kd.R_alloc | apply Kd.R_drewN | apply Kd.R_drew)); exact HO_6.out⟩, ⟨by repeat (first | (with_reducible first | exact HI0.out | apply IsS28.alloc | apply IsS28.drewN | apply IsS28.drew | apply IsS28.set_18) | exact HI0.out)⟩, ⟨by repeat (first | (with_reducible first | exact HK.out | apply KeepBut.set_ | apply keep_drewN | apply keep_drew | apply keep_alloc) | exact HK.out)⟩, ⟨by repeat (first | (with_reducible first | exact HB.out | apply below_alloc | apply pw_below_drewN | apply below_drew1 | refine below_set ?_ (IsS28.ge HI0.out)) | exact HB.out)⟩⟩
              ·rw [if_neg c16] at H
               exact absurd H (by simp)
             ·rw [if_neg c15] at H
              exact absurd H (by simp)
            case rest =>
             clear HC13
             try clear c1
             try clear c2
             try clear p2
             try clear q2
             try clear hx2
             try clear c3
             try clear c3b0
             try clear c4
             try clear c5
             try clear c5b0
             try clear c6
             try clear c6b0
             try clear c6b1
             try clear p6
             try clear c7
             try clear c8
             try clear c8b0
             try clear c9
             try clear c9b0
             try clear c12
             try clear c12b0
             try clear c15
             try clear c15b0
             try clear c16
             try clear c16b0
             try clear c17
             try clear c17b0
             try clear c17b1
             try clear c18
             try clear c18b0
             try clear hx220_0
             try clear hx220_1
             try clear hx221_0
             try clear hx221_1
             try clear hx222_0
             try clear hx222_1
             try clear hx226_0
             try clear hx226_1
             try clear hx227_0
             try clear p2
             try clear p220
             try clear p221
             try clear p222
             try clear p226
             try clear p227
             try clear p6
             try clear q2
             try clear q220
             try clear q221
             try clear q222
             try clear q226
             try clear q227
             obtain ⟨kq, x52_12, rfl, HA, HJ12, HO_6, HI0, HK, HB⟩ := hcut
             cases kq with
             | zero => exact absurd HA.out (by simp [salvorref22_words.j3])
             | succ kj12 =>
              have H := HA.out
              clear HA
              simp only [salvorref22_words.j3] at H
              by_cases c19 : x52_12 = true
              ·subst c19
               have H1 := H; rw [if_pos rfl] at H1
               clear H
               have H := H1
               clear H1
               have H' := Aside0.mk H
               clear H
               obtain ⟨HGz20, hgz20⟩ := HI0.out
               have hcz20_18 := cellS28_18 HGz20
               have hfz20_18 := blk_frozen HGz20 18
               clear HGz20 hgz20
               go_wp2
               go_roundg kj12
               case measure => have := HK1.out; have := HJ3.out; have := HK3.out; have := HJ12.out; omega
               case rel => exact ⟨(wrap64 (x7_3 + 1)), (x1000_3), (x1001_3), (x1002_3), (x1003_3), (x1004_3), (x1005_3), (x1006_3), (x1007_3), (x1008_3), (x1009_3), (x1010_3), (x1011_3), (x1012_3), (x1013_3), (x1014_3), (x1015_3), (x1016_3), (x1017_3), (true), (x1019_3), (x1020_3), (x1021_3), (x1022_3), (x1023_3), (x1024_3), (x1025_3), (by first | rfl | (simp; done) | (simp [*]; done)), H', ⟨by have := HK1.out; have := HJ3.out; have := HK3.out; have := HJ12.out; omega⟩, ⟨by (with_reducible repeat (first | apply Kd.R_alloc | apply Kd.R_drewN | apply Kd.R_drew)); exact Kd.R_mono (Kd.R_far (p := ⟨g, 18, none⟩) (IsS28.apart HI0.out HO_6.out (by decide)) (fun _ hk => hk.2) (.bool true)) (fun _ hk => trivial)⟩, ⟨by repeat (first | (with_reducible first | exact HI0.out | apply IsS28.alloc | apply IsS28.drewN | apply IsS28.drew | apply IsS28.set_18) | exact HI0.out)⟩, ⟨by repeat (first | (with_reducible first | exact HK.out | apply KeepBut.set_ | apply keep_drewN | apply keep_drew | apply keep_alloc) | exact HK.out)⟩, ⟨by repeat (first | (with_reducible first | exact HB.out | apply below_alloc | apply pw_below_drewN | apply below_drew1 | refine below_set ?_ (IsS28.ge HI0.out)) | exact HB.out)⟩⟩
              ·replace c19 := Bool.eq_false_iff.mpr c19
               subst c19
               have H1 : (if 0 ≤ x5_1 then (if x5_1 < (l1.length : Int) then (if ((rd_T68 l1 x5_1).f0).toList = ([105, 102, 108, 97, 103] : List UInt8) then (some (false, x1000_3, x1001_3, x1002_3, x1003_3, x1004_3, x1005_3, x1006_3, x1007_3, x1008_3, x1009_3, x1010_3, x1011_3, x1012_3, x1013_3, x1014_3, x1015_3, x1016_3, x1017_3, x1018_3, x1019_3, x1020_3, x1021_3, x1022_3, x1023_3, x1024_3, x1025_3)) else (if 0 ≤ x7_3 then (if x7_3 < (t223.length : Int) then ((salvorref22_word.f x1000_3 x1001_3 x1002_3 x1003_3 x1004_3 x1005_3 x1006_3 x1007_3 x1008_3 x1009_3 x1010_3 x1011_3 x1012_3 x1013_3 x1014_3 x1015_3 x1016_3 x1017_3 x1018_3 x1019_3 x1020_3 x1021_3 x1022_3 x1023_3 x1024_3 x1025_3 (rdOf ByteArray.empty t223 x7_3)).bind fun bt230 => (if bt230.1 = true then (salvorref22_words.l1 kj12 l1 x5_1 t223 (wrap64 (x7_3 + 1)) bt230.2.1 bt230.2.2.1 bt230.2.2.2.1 bt230.2.2.2.2.1 bt230.2.2.2.2.2.1 bt230.2.2.2.2.2.2.1 bt230.2.2.2.2.2.2.2.1 bt230.2.2.2.2.2.2.2.2.1 bt230.2.2.2.2.2.2.2.2.2.1 bt230.2.2.2.2.2.2.2.2.2.2.1 bt230.2.2.2.2.2.2.2.2.2.2.2.1 bt230.2.2.2.2.2.2.2.2.2.2.2.2.1 bt230.2.2.2.2.2.2.2.2.2.2.2.2.2.1 bt230.2.2.2.2.2.2.2.2.2.2.2.2.2.2.1 bt230.2.2.2.2.2.2.2.2.2.2.2.2.2.2.2.1 bt230.2.2.2.2.2.2.2.2.2.2.2.2.2.2.2.2.1 bt230.2.2.2.2.2.2.2.2.2.2.2.2.2.2.2.2.2.1 bt230.2.2.2.2.2.2.2.2.2.2.2.2.2.2.2.2.2.2.1 bt230.2.2.2.2.2.2.2.2.2.2.2.2.2.2.2.2.2.2.2.1 bt230.2.2.2.2.2.2.2.2.2.2.2.2.2.2.2.2.2.2.2.2.1 bt230.2.2.2.2.2.2.2.2.2.2.2.2.2.2.2.2.2.2.2.2.2.1 bt230.2.2.2.2.2.2.2.2.2.2.2.2.2.2.2.2.2.2.2.2.2.2.1 bt230.2.2.2.2.2.2.2.2.2.2.2.2.2.2.2.2.2.2.2.2.2.2.2.1 bt230.2.2.2.2.2.2.2.2.2.2.2.2.2.2.2.2.2.2.2.2.2.2.2.2.1 bt230.2.2.2.2.2.2.2.2.2.2.2.2.2.2.2.2.2.2.2.2.2.2.2.2.2.1 bt230.2.2.2.2.2.2.2.2.2.2.2.2.2.2.2.2.2.2.2.2.2.2.2.2.2.2) else (some (false, bt230.2.1, bt230.2.2.1, bt230.2.2.2.1, bt230.2.2.2.2.1, bt230.2.2.2.2.2.1, bt230.2.2.2.2.2.2.1, bt230.2.2.2.2.2.2.2.1, bt230.2.2.2.2.2.2.2.2.1, bt230.2.2.2.2.2.2.2.2.2.1, bt230.2.2.2.2.2.2.2.2.2.2.1, bt230.2.2.2.2.2.2.2.2.2.2.2.1, bt230.2.2.2.2.2.2.2.2.2.2.2.2.1, bt230.2.2.2.2.2.2.2.2.2.2.2.2.2.1, bt230.2.2.2.2.2.2.2.2.2.2.2.2.2.2.1, bt230.2.2.2.2.2.2.2.2.2.2.2.2.2.2.2.1, bt230.2.2.2.2.2.2.2.2.2.2.2.2.2.2.2.2.1, bt230.2.2.2.2.2.2.2.2.2.2.2.2.2.2.2.2.2.1, bt230.2.2.2.2.2.2.2.2.2.2.2.2.2.2.2.2.2.2.1, bt230.2.2.2.2.2.2.2.2.2.2.2.2.2.2.2.2.2.2.2.1, bt230.2.2.2.2.2.2.2.2.2.2.2.2.2.2.2.2.2.2.2.2.1, bt230.2.2.2.2.2.2.2.2.2.2.2.2.2.2.2.2.2.2.2.2.2.1, bt230.2.2.2.2.2.2.2.2.2.2.2.2.2.2.2.2.2.2.2.2.2.2.1, bt230.2.2.2.2.2.2.2.2.2.2.2.2.2.2.2.2.2.2.2.2.2.2.2.1, bt230.2.2.2.2.2.2.2.2.2.2.2.2.2.2.2.2.2.2.2.2.2.2.2.2.1, bt230.2.2.2.2.2.2.2.2.2.2.2.2.2.2.2.2.2.2.2.2.2.2.2.2.2.1, bt230.2.2.2.2.2.2.2.2.2.2.2.2.2.2.2.2.2.2.2.2.2.2.2.2.2.2)))) else (none)) else (none))) else (none)) else (none)) = some (r1, r2, r3, r4, r5, r6, r7, r8, r9, r10, r11, r12, r13, r14, r15, r16, r17, r18, r19, r20, r21, r22, r23, r24, r25, r26, r27) := by rw [if_neg (show ¬ (false = true) by decide)] at H; exact H
               clear H
               have H := H1
               clear H1
               by_cases c21 : 0 ≤ x5_1
               ·rw [if_pos c21] at H
                have c21b0 : decide (0 ≤ x5_1) = true := decide_eq_true c21
                clear c21
                by_cases c22 : x5_1 < (l1.length : Int)
                ·rw [if_pos c22] at H
                 have c22b0 : decide (x5_1 < (l1.length : Int)) = true := decide_eq_true c22
                 clear c22
                 by_cases c23 : ((rd_T68 l1 x5_1).f0).toList = ([105, 102, 108, 97, 103] : List UInt8)
                 ·rw [if_pos c23] at H
                  have c23b0 : (((rd_T68 l1 x5_1).f0).toList == ([105, 102, 108, 97, 103] : List UInt8)) = true := beq_iff_eq.mpr c23
                  have c23b1 : (((rd_T68 l1 x5_1).f0).toList != ([105, 102, 108, 97, 103] : List UInt8)) = false := bne_eq_false_iff_eq.mpr c23
                  clear c23
                  simp only [Option.some.injEq, Prod.mk.injEq] at H
                  obtain ⟨rfl, rfl, rfl, rfl, rfl, rfl, rfl, rfl, rfl, rfl, rfl, rfl, rfl, rfl, rfl, rfl, rfl, rfl, rfl, rfl, rfl, rfl, rfl, rfl, rfl, rfl, rfl⟩ := H
                  have p228 : 0 ≤ (x5_1 : Int) := of_decide_eq_true (by first | (with_reducible assumption) | assumption)
                  have q228 : x5_1 < (l1.length : Int) := of_decide_eq_true (by first | (with_reducible assumption) | assumption)
                  obtain ⟨ad228, e228, hx228_0, hx228_1⟩ := at_T68 (Kd.C_foot_now HR1.out HK.out) x5_1 p228 q228
                  obtain rfl : ad222 = ad228 := (by injection e228)
                  replace p228 := eq_true p228
                  replace q228 := eq_true q228
                  go_wp2
                  go_ret
                  exact ⟨by first | rfl | (simp [errW_none, errW_some] <;> rfl) | (simp [*, errW_none, errW_some] <;> rfl), by repeat (first | (with_reducible first | exact HI0.out | apply IsS28.alloc | apply IsS28.drewN | apply IsS28.drew | apply IsS28.set_18) | exact HI0.out), by repeat (first | (with_reducible first | exact HB.out | apply below_alloc | apply pw_below_drewN | apply below_drew1 | refine below_set ?_ (IsS28.ge HI0.out)) | exact HB.out), by repeat (first | (with_reducible first | exact HK.out | apply KeepBut.set_ | apply keep_drewN | apply keep_drew | apply keep_alloc) | exact HK.out)⟩
                 ·rw [if_neg c23] at H
                  have c23b0 : (((rd_T68 l1 x5_1).f0).toList == ([105, 102, 108, 97, 103] : List UInt8)) = false := beq_eq_false_iff_ne.mpr c23
                  have c23b1 : (((rd_T68 l1 x5_1).f0).toList != ([105, 102, 108, 97, 103] : List UInt8)) = true := bne_iff_ne.mpr c23
                  by_cases c24 : 0 ≤ x7_3
                  ·rw [if_pos c24] at H
                   have c24b0 : decide (0 ≤ x7_3) = true := decide_eq_true c24
                   clear c24
                   by_cases c25 : x7_3 < (t223.length : Int)
                   ·rw [if_pos c25] at H
                    have c25b0 : decide (x7_3 < (t223.length : Int)) = true := decide_eq_true c25
                    clear c25
                    replace H := Option.bind_eq_some_iff.mp H
                    obtain ⟨⟨t230, t231, t232, t233, t234, t235, t236, t237, t238, t239, t240, t241, t242, t243, t244, t245, t246, t247, t248, t249, t250, t251, t252, t253, t254, t255, t256⟩, A260, H⟩ := H
                    replace H : (if t230 = true then (salvorref22_words.l1 kj12 l1 x5_1 t223 (wrap64 (x7_3 + 1)) t231 t232 t233 t234 t235 t236 t237 t238 t239 t240 t241 t242 t243 t244 t245 t246 t247 t248 t249 t250 t251 t252 t253 t254 t255 t256) else (some (false, t231, t232, t233, t234, t235, t236, t237, t238, t239, t240, t241, t242, t243, t244, t245, t246, t247, t248, t249, t250, t251, t252, t253, t254, t255, t256))) = some (r1, r2, r3, r4, r5, r6, r7, r8, r9, r10, r11, r12, r13, r14, r15, r16, r17, r18, r19, r20, r21, r22, r23, r24, r25, r26, r27) := H
                    have A26 := Aside0.mk A260
                    clear A260
                    by_cases c27 : t230 = true
                    ·subst c27
                     have H1 := H; rw [if_pos rfl] at H1
                     clear H
                     have H := H1
                     clear H1
                     have H' := Aside0.mk H
                     clear H
                     have p228 : 0 ≤ (x5_1 : Int) := of_decide_eq_true (by first | (with_reducible assumption) | assumption)
                     have q228 : x5_1 < (l1.length : Int) := of_decide_eq_true (by first | (with_reducible assumption) | assumption)
                     obtain ⟨ad228, e228, hx228_0, hx228_1⟩ := at_T68 (Kd.C_foot_now HR1.out HK.out) x5_1 p228 q228
                     obtain rfl : ad222 = ad228 := (by injection e228)
                     replace p228 := eq_true p228
                     replace q228 := eq_true q228
                     have p229 : 0 ≤ (x7_3 : Int) := of_decide_eq_true (by first | (with_reducible assumption) | assumption)
                     have q229 : x7_3 < (t223.length : Int) := of_decide_eq_true (by first | (with_reducible assumption) | assumption)
                     obtain ⟨ad229, e229, hx229_0⟩ := Kd.at_string (Kd.R_reads' HO_6.out).2.2 x7_3 p229 q229
                     cases e229
                     replace p229 := eq_true p229
                     replace q229 := eq_true q229
                     go_wp2_with (first | (go_at_call 48; (with_reducible refine (salvorref22_word.calls g x1000_3 x1001_3 x1002_3 x1003_3 x1004_3 x1005_3 x1006_3 x1007_3 x1008_3 x1009_3 x1010_3 x1011_3 x1012_3 x1013_3 x1014_3 x1015_3 x1016_3 x1017_3 x1018_3 x1019_3 x1020_3 x1021_3 x1022_3 x1023_3 x1024_3 x1025_3 (rdOf ByteArray.empty t223 x7_3) true t231 t232 t233 t234 t235 t236 t237 t238 t239 t240 t241 t242 t243 t244 t245 t246 t247 t248 t249 t250 t251 t252 t253 t254 t255 t256 w0 _ ?side1 ?side2 A26.out).mono ?_); (case side1 => repeat (first | (with_reducible first | exact HI0.out | apply IsS28.alloc | apply IsS28.drewN | apply IsS28.drew | apply IsS28.set_18) | exact HI0.out)); (case side2 => repeat (first | (with_reducible first | exact HB.out | apply below_alloc | apply pw_below_drewN | apply below_drew1 | refine below_set ?_ (IsS28.ge HI0.out)) | exact HB.out)); rintro e w28 ⟨rfl, hi, hb, hk⟩; have n0_ := Aside0.mk (Kd.R_mono (Kd.R_keep (IsS28.apart (show IsS28 w0 _ g x1000_3 x1001_3 x1002_3 x1003_3 x1004_3 x1005_3 x1006_3 x1007_3 x1008_3 x1009_3 x1010_3 x1011_3 x1012_3 x1013_3 x1014_3 x1015_3 x1016_3 x1017_3 x1018_3 x1019_3 x1020_3 x1021_3 x1022_3 x1023_3 x1024_3 x1025_3 from by repeat (first | (with_reducible first | exact HI0.out | apply IsS28.alloc | apply IsS28.drewN | apply IsS28.drew | apply IsS28.set_18) | exact HI0.out)) (by (with_reducible repeat (first | apply Kd.R_alloc | apply Kd.R_drewN | apply Kd.R_drew)); exact HO_6.out) (by decide)) hk (fun _ h => h.2)) (fun _ h => h.1)); have n1_ := Aside0.mk (KeepBut.trans (by repeat (first | (with_reducible first | exact HK.out | apply KeepBut.set_ | apply keep_drewN | apply keep_drew | apply keep_alloc) | exact HK.out)) hk (.inl rfl)); have n2_ := Aside0.mk (hb); have n3_ := Aside0.mk (hi); clear HO_6; clear HK; clear HB; clear HI0; have HO_6 := n0_; have HK := n1_; have HB := n2_; have HI0 := n3_; clear n0_ n1_ n2_ n3_; (try clear hb); (try clear hb2); (try clear hk); (try clear hi)))
                     go_roundg kj12
                     case measure => have := HK1.out; have := HJ3.out; have := HK3.out; have := HJ12.out; omega
                     case rel => exact ⟨(wrap64 (x7_3 + 1)), (t231), (t232), (t233), (t234), (t235), (t236), (t237), (t238), (t239), (t240), (t241), (t242), (t243), (t244), (t245), (t246), (t247), (t248), (t249), (t250), (t251), (t252), (t253), (t254), (t255), (t256), (by first | rfl | (simp; done) | (simp [*]; done)), H', ⟨by have := HK1.out; have := HJ3.out; have := HK3.out; have := HJ12.out; omega⟩, ⟨by (with_reducible repeat (first | apply Kd.R_alloc | apply Kd.R_drewN | apply Kd.R_drew)); exact HO_6.out⟩, ⟨by repeat (first | (with_reducible first | exact HI0.out | apply IsS28.alloc | apply IsS28.drewN | apply IsS28.drew | apply IsS28.set_18) | exact HI0.out)⟩, ⟨by repeat (first | (with_reducible first | exact HK.out | apply KeepBut.set_ | apply keep_drewN | apply keep_drew | apply keep_alloc) | exact HK.out)⟩, ⟨by repeat (first | (with_reducible first | exact HB.out | apply below_alloc | apply pw_below_drewN | apply below_drew1 | refine below_set ?_ (IsS28.ge HI0.out)) | exact HB.out)⟩⟩
                    ·replace c27 := Bool.eq_false_iff.mpr c27
                     subst c27
                     have H1 : (some (false, t231, t232, t233, t234, t235, t236, t237, t238, t239, t240, t241, t242, t243, t244, t245, t246, t247, t248, t249, t250, t251, t252, t253, t254, t255, t256)) = some (r1, r2, r3, r4, r5, r6, r7, r8, r9, r10, r11, r12, r13, r14, r15, r16, r17, r18, r19, r20, r21, r22, r23, r24, r25, r26, r27) := by rw [if_neg (show ¬ (false = true) by decide)] at H; exact H
                     clear H
                     have H := H1
                     clear H1
                     simp only [Option.some.injEq, Prod.mk.injEq] at H
                     obtain ⟨rfl, rfl, rfl, rfl, rfl, rfl, rfl, rfl, rfl, rfl, rfl, rfl, rfl, rfl, rfl, rfl, rfl, rfl, rfl, rfl, rfl, rfl, rfl, rfl, rfl, rfl, rfl⟩ := H
                     have p228 : 0 ≤ (x5_1 : Int) := of_decide_eq_true (by first | (with_reducible assumption) | assumption)
                     have q228 : x5_1 < (l1.length : Int) := of_decide_eq_true (by first | (with_reducible assumption) | assumption)
                     obtain ⟨ad228, e228, hx228_0, hx228_1⟩ := at_T68 (Kd.C_foot_now HR1.out HK.out) x5_1 p228 q228
                     obtain rfl : ad222 = ad228 := (by injection e228)
                     replace p228 := eq_true p228
                     replace q228 := eq_true q228
                     have p229 : 0 ≤ (x7_3 : Int) := of_decide_eq_true (by first | (with_reducible assumption) | assumption)
                     have q229 : x7_3 < (t223.length : Int) := of_decide_eq_true (by first | (with_reducible assumption) | assumption)
                     obtain ⟨ad229, e229, hx229_0⟩ := Kd.at_string (Kd.R_reads' HO_6.out).2.2 x7_3 p229 q229
                     cases e229
                     replace p229 := eq_true p229
                     replace q229 := eq_true q229
                     go_wp2_with (first | (go_at_call 48; (with_reducible refine (salvorref22_word.calls g x1000_3 x1001_3 x1002_3 x1003_3 x1004_3 x1005_3 x1006_3 x1007_3 x1008_3 x1009_3 x1010_3 x1011_3 x1012_3 x1013_3 x1014_3 x1015_3 x1016_3 x1017_3 x1018_3 x1019_3 x1020_3 x1021_3 x1022_3 x1023_3 x1024_3 x1025_3 (rdOf ByteArray.empty t223 x7_3) false t231 t232 t233 t234 t235 t236 t237 t238 t239 t240 t241 t242 t243 t244 t245 t246 t247 t248 t249 t250 t251 t252 t253 t254 t255 t256 w0 _ ?side1 ?side2 A26.out).mono ?_); (case side1 => repeat (first | (with_reducible first | exact HI0.out | apply IsS28.alloc | apply IsS28.drewN | apply IsS28.drew | apply IsS28.set_18) | exact HI0.out)); (case side2 => repeat (first | (with_reducible first | exact HB.out | apply below_alloc | apply pw_below_drewN | apply below_drew1 | refine below_set ?_ (IsS28.ge HI0.out)) | exact HB.out)); rintro e w29 ⟨rfl, hi, hb, hk⟩; have n0_ := Aside0.mk (Kd.R_mono (Kd.R_keep (IsS28.apart (show IsS28 w0 _ g x1000_3 x1001_3 x1002_3 x1003_3 x1004_3 x1005_3 x1006_3 x1007_3 x1008_3 x1009_3 x1010_3 x1011_3 x1012_3 x1013_3 x1014_3 x1015_3 x1016_3 x1017_3 x1018_3 x1019_3 x1020_3 x1021_3 x1022_3 x1023_3 x1024_3 x1025_3 from by repeat (first | (with_reducible first | exact HI0.out | apply IsS28.alloc | apply IsS28.drewN | apply IsS28.drew | apply IsS28.set_18) | exact HI0.out)) (by (with_reducible repeat (first | apply Kd.R_alloc | apply Kd.R_drewN | apply Kd.R_drew)); exact HO_6.out) (by decide)) hk (fun _ h => h.2)) (fun _ h => h.1)); have n1_ := Aside0.mk (KeepBut.trans (by repeat (first | (with_reducible first | exact HK.out | apply KeepBut.set_ | apply keep_drewN | apply keep_drew | apply keep_alloc) | exact HK.out)) hk (.inl rfl)); have n2_ := Aside0.mk (hb); have n3_ := Aside0.mk (hi); clear HO_6; clear HK; clear HB; clear HI0; have HO_6 := n0_; have HK := n1_; have HB := n2_; have HI0 := n3_; clear n0_ n1_ n2_ n3_; (try clear hb); (try clear hb2); (try clear hk); (try clear hi)))
                     go_ret
                     exact ⟨by first | rfl | (simp [errW_none, errW_some] <;> rfl) | (simp [*, errW_none, errW_some] <;> rfl), by repeat (first | (with_reducible first | exact HI0.out | apply IsS28.alloc | apply IsS28.drewN | apply IsS28.drew | apply IsS28.set_18) | exact HI0.out), by repeat (first | (with_reducible first | exact HB.out | apply below_alloc | apply pw_below_drewN | apply below_drew1 | refine below_set ?_ (IsS28.ge HI0.out)) | exact HB.out), by repeat (first | (with_reducible first | exact HK.out | apply KeepBut.set_ | apply keep_drewN | apply keep_drew | apply keep_alloc) | exact HK.out)⟩
                   ·rw [if_neg c25] at H
                    exact absurd H (by simp)
                  ·rw [if_neg c24] at H
                   exact absurd H (by simp)
                ·rw [if_neg c22] at H
                 exact absurd H (by simp)
               ·rw [if_neg c21] at H
                exact absurd H (by simp)
           ·rw [if_neg c12] at H
            have c12b0 : decide (x7_3 < (t223.length : Int)) = false := decide_eq_false c12
            clear c12
            have H' := Aside0.mk H
            clear H
            obtain ⟨Ao30, co30, eo30⟩ := Kd.R_slice HO_6.out
            subst eo30
            go_wp2
            go_roundg k3
            case measure => have := HK1.out; have := HJ3.out; have := HK3.out; omega
            case rel => exact ⟨(wrap64 (x5_1 + 1)), (x1000_3), (x1001_3), (x1002_3), (x1003_3), (x1004_3), (x1005_3), (x1006_3), (x1007_3), (x1008_3), (x1009_3), (x1010_3), (x1011_3), (x1012_3), (x1013_3), (x1014_3), (x1015_3), (x1016_3), (x1017_3), (x1018_3), (x1019_3), (x1020_3), (x1021_3), (x1022_3), (x1023_3), (x1024_3), (x1025_3), (by first | rfl | (simp; done) | (simp [*]; done)), H', ⟨by have := HK1.out; have := HJ3.out; have := HK3.out; omega⟩, ⟨by repeat (first | (with_reducible first | exact HI0.out | apply IsS28.alloc | apply IsS28.drewN | apply IsS28.drew | apply IsS28.set_18) | exact HI0.out)⟩, ⟨by repeat (first | (with_reducible first | exact HK.out | apply KeepBut.set_ | apply keep_drewN | apply keep_drew | apply keep_alloc) | exact HK.out)⟩, ⟨by repeat (first | (with_reducible first | exact HB.out | apply below_alloc | apply pw_below_drewN | apply below_drew1 | refine below_set ?_ (IsS28.ge HI0.out)) | exact HB.out)⟩⟩
        ·rw [if_neg c9] at H
         exact absurd H (by simp)
       ·rw [if_neg c8] at H
        exact absurd H (by simp)
   ·rw [if_neg c3] at H
    have c3b0 : decide (x5_1 < (l1.length : Int)) = false := decide_eq_false c3
    clear c3
    simp only [Option.some.injEq, Prod.mk.injEq] at H
    obtain ⟨rfl, rfl, rfl, rfl, rfl, rfl, rfl, rfl, rfl, rfl, rfl, rfl, rfl, rfl, rfl, rfl, rfl, rfl, rfl, rfl, rfl, rfl, rfl, rfl, rfl, rfl, rfl⟩ := H
    go_wp2
    go_ret
    exact ⟨by first | rfl | (simp [errW_none, errW_some] <;> rfl) | (simp [*, errW_none, errW_some] <;> rfl), by repeat (first | (with_reducible first | exact HI0.out | apply IsS28.alloc | apply IsS28.drewN | apply IsS28.drew | apply IsS28.set_18) | exact HI0.out), by repeat (first | (with_reducible first | exact HB.out | apply below_alloc | apply pw_below_drewN | apply below_drew1 | refine below_set ?_ (IsS28.ge HI0.out)) | exact HB.out), by repeat (first | (with_reducible first | exact HK.out | apply KeepBut.set_ | apply keep_drewN | apply keep_drew | apply keep_alloc) | exact HK.out)⟩
end Go.Proofs.YtbmhfnncagncmaaGreatDoor.P
