/- Laid by a program of this session's own (wip/wprint.py, over the kit's print.py): functions of the given program as plain Lean functions, and that the program's calls come to their answers. -/
import Derived.Test.YtlcablcpcbmgeaaGreatDoorPx0
namespace Go.Proofs.YtlcablcpcbmgeaaGreatDoor.P
open Go.RowKit Go.Proofs.YtlcablcpcbmgeaaGreatDoorW.PrintWords Go.Proofs.YtlcablcpcbmgeaaGreatDoorW.PrintLast Go.Proofs.YtlcablcpcbmgeaaGreatDoorW.PrintMore
attribute [local go_sem] max2_int min2_int max_two min_two max_three min_three max_four min_four   -- for this text's walks alone
set_option linter.unusedVariables false
set_option linter.unusedSimpArgs false

-- NOT PRINTED: function 27 (strings_Builder_Len)

-- none

-- none

-- none

-- none

-- none

/-! ### strings_Repeat: function 57 -/
def strings_Repeat.f (a0 : ByteArray) (a1 : Int) : Option (ByteArray) := if 0 ≤ a1 ∧ a1 ≤ 9223372036854775807 ∧ a0.size * a1.toNat ≤ 140737488355328 then some ⟨(Lib.repeatL a0.data.toList a1.toNat).toArray⟩ else none
set_option maxHeartbeats 8000000 in
set_option maxRecDepth 100000 in
theorem strings_Repeat.calls (a0 : ByteArray) (a1 : Int) (r : ByteArray) (w : World)  (h : strings_Repeat.f a0 a1 = some r) :
    Calls Tryz.prog 57 #[.string a0, .int .i64 a1] w fun e w' => e = .returned (.string r) ∧ Below w.heap.size w w' := by
  unfold strings_Repeat.f at h
  by_cases h0 : 0 ≤ a1 ∧ a1 ≤ 9223372036854775807 ∧ a0.size * a1.toNat ≤ 140737488355328
  · rw [if_pos h0] at h
    obtain rfl := Option.some.inj h
    obtain ⟨h1, h2, h3⟩ := h0
    obtain ⟨c, rfl⟩ : ∃ c : Nat, a1 = c := ⟨a1.toNat, by omega⟩
    rw [Int.toNat_natCast] at h3
    refine (Go.Proofs.Tryz.strings_Repeat a0 c w (by omega) h3).mono ?_
    rintro e w' ⟨rfl, hb⟩
    exact ⟨by rw [Int.toNat_natCast], hb⟩
  · rw [if_neg h0] at h; cases h

end Go.Proofs.YtlcablcpcbmgeaaGreatDoor.P
