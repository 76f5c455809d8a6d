/- Laid by a program of this session's own (wip/wprint.py, over the kit's print.py): functions of the given program as plain Lean functions, and that the program's calls come to their answers. -/
import Derived.Test.YtbmhfnncagncmaaDoorPx0
import Derived.Test.YtbmhfnncagncmaaDoorNumD
namespace Go.Proofs.YtbmhfnncagncmaaDoor.P
open Go.RowKit Go.Proofs.YtbmhfnncagncmaaDoorW.PrintWords Go.Proofs.YtbmhfnncagncmaaDoorW.PrintLast Go.Proofs.YtbmhfnncagncmaaDoorW.PrintMore
attribute [local go_sem] max2_int min2_int max_two min_two max_three min_three max_four min_four   -- for this text's walks alone
set_option linter.unusedVariables false
set_option linter.unusedSimpArgs false

/-! ### num_times: function 59 -/
def num_times.f (a0 : ByteArray) : Option (Int × Bool) := some (Num.tv (Num.tm a0.data.toList))
set_option maxHeartbeats 8000000 in
set_option maxRecDepth 100000 in
theorem num_times.calls (a0 : ByteArray) (r1 : Int) (r2 : Bool) (w : World)  (h : num_times.f a0 = some (r1, r2)) :
    Calls Tryd.prog 59 #[.string a0] w fun e w' => e = .returned (.tuple #[.int .i64 r1, .bool r2]) ∧ Drawn0 w w' := by
  unfold num_times.f at h
  by_cases c0 : a0.data.toList = []
  · have e : a0 = ⟨#[]⟩ := Go.WideShapes.bytes_inj (by rw [c0])
    subst e
    simp only [Num.tm, List.cons.injEq, reduceCtorEq, if_true, if_false, and_false, and_true, Num.tv] at h
    obtain ⟨rfl, rfl⟩ : _ ∧ _ := by simpa [Num.tm, Num.tv] using h
    clear h c0
    go_enter Tryd.func59, Tryd.ntmps59
    go_wp2
    go_ret2
    exact ⟨by first | rfl | decide, 0, rfl⟩
  by_cases c1 : a0.data.toList = [99]
  · have e : a0 = ⟨#[99]⟩ := Go.WideShapes.bytes_inj (by rw [c1])
    subst e
    simp only [Num.tm, List.cons.injEq, reduceCtorEq, if_true, if_false, and_false, and_true, Num.tv] at h
    obtain ⟨rfl, rfl⟩ : _ ∧ _ := by simpa [Num.tm, Num.tv] using h
    clear h c1 c0
    go_enter Tryd.func59, Tryd.ntmps59
    go_wp2
    go_ret2
    exact ⟨by first | rfl | decide, 0, rfl⟩
  by_cases c2 : a0.data.toList = [119]
  · have e : a0 = ⟨#[119]⟩ := Go.WideShapes.bytes_inj (by rw [c2])
    subst e
    simp only [Num.tm, List.cons.injEq, reduceCtorEq, if_true, if_false, and_false, and_true, Num.tv] at h
    obtain ⟨rfl, rfl⟩ : _ ∧ _ := by simpa [Num.tm, Num.tv] using h
    clear h c2 c0 c1
    go_enter Tryd.func59, Tryd.ntmps59
    go_wp2
    go_ret2
    exact ⟨by first | rfl | decide, 0, rfl⟩
  by_cases c3 : a0.data.toList = [98]
  · have e : a0 = ⟨#[98]⟩ := Go.WideShapes.bytes_inj (by rw [c3])
    subst e
    simp only [Num.tm, List.cons.injEq, reduceCtorEq, if_true, if_false, and_false, and_true, Num.tv] at h
    obtain ⟨rfl, rfl⟩ : _ ∧ _ := by simpa [Num.tm, Num.tv] using h
    clear h c3 c0 c1 c2
    go_enter Tryd.func59, Tryd.ntmps59
    go_wp2
    go_ret2
    exact ⟨by first | rfl | decide, 0, rfl⟩
  by_cases c4 : a0.data.toList = [107, 66]
  · have e : a0 = ⟨#[107, 66]⟩ := Go.WideShapes.bytes_inj (by rw [c4])
    subst e
    simp only [Num.tm, List.cons.injEq, reduceCtorEq, if_true, if_false, and_false, and_true, Num.tv] at h
    obtain ⟨rfl, rfl⟩ : _ ∧ _ := by simpa [Num.tm, Num.tv] using h
    clear h c4 c0 c1 c2 c3
    go_enter Tryd.func59, Tryd.ntmps59
    go_wp2
    go_ret2
    exact ⟨by first | rfl | decide, 0, rfl⟩
  by_cases c5 : a0.data.toList = [107]
  · have e : a0 = ⟨#[107]⟩ := Go.WideShapes.bytes_inj (by rw [c5])
    subst e
    simp only [Num.tm, List.cons.injEq, reduceCtorEq, if_true, if_false, and_false, and_true, Num.tv] at h
    obtain ⟨rfl, rfl⟩ : _ ∧ _ := by simpa [Num.tm, Num.tv] using h
    clear h c5 c0 c1 c2 c3 c4
    go_enter Tryd.func59, Tryd.ntmps59
    go_wp2
    go_ret2
    exact ⟨by first | rfl | decide, 0, rfl⟩
  by_cases c6 : a0.data.toList = [75]
  · have e : a0 = ⟨#[75]⟩ := Go.WideShapes.bytes_inj (by rw [c6])
    subst e
    simp only [Num.tm, List.cons.injEq, reduceCtorEq, if_true, if_false, and_false, and_true, Num.tv] at h
    obtain ⟨rfl, rfl⟩ : _ ∧ _ := by simpa [Num.tm, Num.tv] using h
    clear h c6 c0 c1 c2 c3 c4 c5
    go_enter Tryd.func59, Tryd.ntmps59
    go_wp2
    go_ret2
    exact ⟨by first | rfl | decide, 0, rfl⟩
  by_cases c7 : a0.data.toList = [77, 66]
  · have e : a0 = ⟨#[77, 66]⟩ := Go.WideShapes.bytes_inj (by rw [c7])
    subst e
    simp only [Num.tm, List.cons.injEq, reduceCtorEq, if_true, if_false, and_false, and_true, Num.tv] at h
    obtain ⟨rfl, rfl⟩ : _ ∧ _ := by simpa [Num.tm, Num.tv] using h
    clear h c7 c0 c1 c2 c3 c4 c5 c6
    go_enter Tryd.func59, Tryd.ntmps59
    go_wp2
    go_ret2
    exact ⟨by first | rfl | decide, 0, rfl⟩
  by_cases c8 : a0.data.toList = [77]
  · have e : a0 = ⟨#[77]⟩ := Go.WideShapes.bytes_inj (by rw [c8])
    subst e
    simp only [Num.tm, List.cons.injEq, reduceCtorEq, if_true, if_false, and_false, and_true, Num.tv] at h
    obtain ⟨rfl, rfl⟩ : _ ∧ _ := by simpa [Num.tm, Num.tv] using h
    clear h c8 c0 c1 c2 c3 c4 c5 c6 c7
    go_enter Tryd.func59, Tryd.ntmps59
    go_wp2
    go_ret2
    exact ⟨by first | rfl | decide, 0, rfl⟩
  by_cases c9 : a0.data.toList = [71, 66]
  · have e : a0 = ⟨#[71, 66]⟩ := Go.WideShapes.bytes_inj (by rw [c9])
    subst e
    simp only [Num.tm, List.cons.injEq, reduceCtorEq, if_true, if_false, and_false, and_true, Num.tv] at h
    obtain ⟨rfl, rfl⟩ : _ ∧ _ := by simpa [Num.tm, Num.tv] using h
    clear h c9 c0 c1 c2 c3 c4 c5 c6 c7 c8
    go_enter Tryd.func59, Tryd.ntmps59
    go_wp2
    go_ret2
    exact ⟨by first | rfl | decide, 0, rfl⟩
  by_cases c10 : a0.data.toList = [71]
  · have e : a0 = ⟨#[71]⟩ := Go.WideShapes.bytes_inj (by rw [c10])
    subst e
    simp only [Num.tm, List.cons.injEq, reduceCtorEq, if_true, if_false, and_false, and_true, Num.tv] at h
    obtain ⟨rfl, rfl⟩ : _ ∧ _ := by simpa [Num.tm, Num.tv] using h
    clear h c10 c0 c1 c2 c3 c4 c5 c6 c7 c8 c9
    go_enter Tryd.func59, Tryd.ntmps59
    go_wp2
    go_ret2
    exact ⟨by first | rfl | decide, 0, rfl⟩
  have e : Num.tm a0.data.toList = none := by unfold Num.tm; simp only [c0, c1, c2, c3, c4, c5, c6, c7, c8, c9, c10, if_false]
  rw [e] at h
  obtain ⟨rfl, rfl⟩ : 0 = r1 ∧ false = r2 := by simpa [Num.tv] using h
  rw [← ByteArray.toList_eq] at c0
  replace c0 : a0.toList.isEmpty = false := by simpa using c0
  rw [← ByteArray.toList_eq] at c1
  replace c1 : (a0.toList == [99]) = false := beq_eq_false_iff_ne.mpr c1
  rw [← ByteArray.toList_eq] at c2
  replace c2 : (a0.toList == [119]) = false := beq_eq_false_iff_ne.mpr c2
  rw [← ByteArray.toList_eq] at c3
  replace c3 : (a0.toList == [98]) = false := beq_eq_false_iff_ne.mpr c3
  rw [← ByteArray.toList_eq] at c4
  replace c4 : (a0.toList == [107, 66]) = false := beq_eq_false_iff_ne.mpr c4
  rw [← ByteArray.toList_eq] at c5
  replace c5 : (a0.toList == [107]) = false := beq_eq_false_iff_ne.mpr c5
  rw [← ByteArray.toList_eq] at c6
  replace c6 : (a0.toList == [75]) = false := beq_eq_false_iff_ne.mpr c6
  rw [← ByteArray.toList_eq] at c7
  replace c7 : (a0.toList == [77, 66]) = false := beq_eq_false_iff_ne.mpr c7
  rw [← ByteArray.toList_eq] at c8
  replace c8 : (a0.toList == [77]) = false := beq_eq_false_iff_ne.mpr c8
  rw [← ByteArray.toList_eq] at c9
  replace c9 : (a0.toList == [71, 66]) = false := beq_eq_false_iff_ne.mpr c9
  rw [← ByteArray.toList_eq] at c10
  replace c10 : (a0.toList == [71]) = false := beq_eq_false_iff_ne.mpr c10
  clear h e
  go_enter Tryd.func59, Tryd.ntmps59
  go_wp2
  go_ret2
  exact ⟨rfl, 0, rfl⟩

end Go.Proofs.YtbmhfnncagncmaaDoor.P
