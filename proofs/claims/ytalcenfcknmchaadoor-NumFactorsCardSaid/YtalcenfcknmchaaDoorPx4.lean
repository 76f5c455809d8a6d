/- Laid by a program of this session's own (wip/wprint.py, over the kit's print.py): functions of the given program as plain Lean functions, and that the program's calls come to their answers. -/
import Derived.Test.YtalcenfcknmchaaDoorPx0
namespace Go.Proofs.YtalcenfcknmchaaDoor.P
open Go.RowKit Go.Proofs.YtalcenfcknmchaaDoorW.PrintWords Go.Proofs.YtalcenfcknmchaaDoorW.PrintLast Go.Proofs.YtalcenfcknmchaaDoorW.PrintMore
attribute [local go_sem] max2_int min2_int max_two min_two max_three min_three max_four min_four   -- for this text's walks alone
set_option linter.unusedVariables false
set_option linter.unusedSimpArgs false

-- none

-- none

-- none

-- none

-- none

-- none

-- none

-- none

-- none

-- none

-- none

-- none

-- none

-- none

-- none

-- none

-- none

-- none

-- none

/-! ### strconv_Itoa_29: function 29 -/
def strconv_Itoa_29.f (a0 : Int) : Option (ByteArray) := if -9223372036854775808 ≤ a0 ∧ a0 ≤ 9223372036854775807 then some ⟨(Lib.itoa a0).toArray⟩ else none
set_option maxHeartbeats 8000000 in
set_option maxRecDepth 100000 in
theorem strconv_Itoa_29.calls (a0 : Int) (r : ByteArray) (w : World)  (h : strconv_Itoa_29.f a0 = some r) (htab : TabAt w) :
    Calls Tryd.prog 29 #[.int .i64 a0] w fun e w' => e = .returned (.string r) ∧ Below w.heap.size w w' := by
  unfold strconv_Itoa_29.f at h
  by_cases h0 : -9223372036854775808 ≤ a0 ∧ a0 ≤ 9223372036854775807
  · rw [if_pos h0] at h
    obtain rfl := Option.some.inj h
    refine (Go.Proofs.Tryd.strconv_Itoa a0 h0.1 h0.2 _ htab.pow).mono ?_
    rintro e w' ⟨rfl, k, os, rfl⟩
    exact ⟨rfl, Lib.below_grow _ _ (Nat.le_refl _) _ _⟩
  · rw [if_neg h0] at h; cases h

-- none

-- none

-- none

-- none

-- none

end Go.Proofs.YtalcenfcknmchaaDoor.P
