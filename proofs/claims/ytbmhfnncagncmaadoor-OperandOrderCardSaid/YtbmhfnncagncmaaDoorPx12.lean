/- Laid by a program of this session's own (wip/wprint.py, over the kit's print.py): functions of the given program as plain Lean functions, and that the program's calls come to their answers. -/
import Derived.Test.YtbmhfnncagncmaaDoorPx0
import Derived.Lib.SplitLaws
namespace Go.Proofs.YtbmhfnncagncmaaDoor.P
open Go.RowKit Go.Proofs.YtbmhfnncagncmaaDoorW.PrintWords Go.Proofs.YtbmhfnncagncmaaDoorW.PrintLast Go.Proofs.YtbmhfnncagncmaaDoorW.PrintMore
attribute [local go_sem] max2_int min2_int max_two min_two max_three min_three max_four min_four   -- for this text's walks alone
set_option linter.unusedVariables false
set_option linter.unusedSimpArgs false

/-! ### strings_Split: function 50 -/
theorem split_owns (w : World) (l : List ByteArray) (n : Nat) (hl : l.length = n) (hn : n ≤ maxLen) : Kd.R Kd.string 9 (w.alloc (.cells (l.map Value.string).toArray 9)) w.heap.size (fun _ => True) (.slice (some ⟨w.heap.size, 0, none⟩) n n) l := by
  refine Kd.R_of_own (h1 := fun _ => rfl) ⟨by simp [encs], .inr ⟨w.heap.size, n, (l.map Value.string).toArray, by rw [hl], Nat.le_refl _, heap_alloc_new w _, by omega, hn, by simp [hl], ?_⟩⟩ (fun _ _ => trivial)
  simp [encs]
  exact List.take_of_length_le (by simp)
def strings_Split.f (a0 : ByteArray) (a1 : ByteArray) : Option (List ByteArray) := if a0.size < 4294967281 ∧ 1 ≤ a1.size then some (Lib.splitB a1 0 (Lib.countB a0 a1) a0) else none
set_option maxHeartbeats 8000000 in
set_option maxRecDepth 100000 in
theorem strings_Split.calls (a0 : ByteArray) (a1 : ByteArray) (r : List ByteArray) (w : World)  (h : strings_Split.f a0 a1 = some r) (htab : TabAt w) :
    Calls Tryd.prog 50 #[.string a0, .string a1] w fun e w' => ∃ v0_ : Value, e = .returned (v0_) ∧ Kd.R Kd.string 9 w' w.heap.size (fun _ => True) v0_ r ∧ Below w.heap.size w w' := by
  unfold strings_Split.f at h
  by_cases h0 : a0.size < 4294967281 ∧ 1 ≤ a1.size
  · rw [if_pos h0] at h
    obtain rfl := Option.some.inj h
    obtain ⟨m, hm⟩ := htab.max
    refine (Go.Proofs.Tryd.strings_Split a0 a1 m w h0.1 hm h0.2).mono ?_
    rintro e w' ⟨rfl, rfl⟩
    have hl : (Lib.splitB a1 0 (Lib.countB a0 a1) a0).length = Lib.countB a0 a1 + 1 := Lib.splitB_all a1 h0.2 0 _ a0 rfl
    have hcn := Lib.countB_le a1 h0.2 a0.size a0 (Nat.le_refl _)
    exact ⟨_, rfl, split_owns w _ _ hl (by unfold maxLen; omega), below_alloc (Below.refl _ _) _⟩
  · rw [if_neg h0] at h; cases h

end Go.Proofs.YtbmhfnncagncmaaDoor.P
