/- Laid by a program of this session's own (wip/wprint.py, over the kit's print.py): functions of the given program as plain Lean functions, and that the program's calls come to their answers. -/
import Derived.Test.YtlcablcpcbmgeaaGreatDoorPx0
import Derived.Test.YtlcablcpcbmgeaaGreatDoorNumF
namespace Go.Proofs.YtlcablcpcbmgeaaGreatDoor.P
open Go.RowKit Go.Proofs.YtlcablcpcbmgeaaGreatDoorW.PrintWords Go.Proofs.YtlcablcpcbmgeaaGreatDoorW.PrintLast Go.Proofs.YtlcablcpcbmgeaaGreatDoorW.PrintMore
attribute [local go_sem] max2_int min2_int max_two min_two max_three min_three max_four min_four   -- for this text's walks alone
set_option linter.unusedVariables false
set_option linter.unusedSimpArgs false

/-! ### strconv_FormatInt_56: function 56 -/
def strconv_FormatInt_56.f (a0 : Int) (a1 : Int) : Option (ByteArray) := if a1 = 16 ∧ 0 ≤ a0 ∧ a0 ≤ 9223372036854775807 then some ⟨(Num.hexl a0.toNat).toArray⟩ else none
set_option maxHeartbeats 8000000 in
set_option maxRecDepth 100000 in
theorem strconv_FormatInt_56.calls (a0 : Int) (a1 : Int) (r : ByteArray) (w : World)  (h : strconv_FormatInt_56.f a0 a1 = some r) (htab : TabAt w) :
    Calls Tryz.prog 56 #[.int .i64 a0, .int .i64 a1] w fun e w' => e = .returned (.string r) ∧ Below w.heap.size w w' := by
  unfold strconv_FormatInt_56.f at h
  by_cases h0 : a1 = 16 ∧ 0 ≤ a0 ∧ a0 ≤ 9223372036854775807
  · rw [if_pos h0] at h
    obtain rfl := Option.some.inj h
    obtain ⟨rfl, h1, h2⟩ := h0
    obtain ⟨u, rfl⟩ : ∃ u : Nat, a0 = u := ⟨a0.toNat, by omega⟩
    refine (Num.format16 u (by omega) w htab).mono ?_
    rintro e w' ⟨rfl, hb⟩
    exact ⟨by rw [Int.toNat_natCast], hb⟩
  · rw [if_neg h0] at h; cases h

end Go.Proofs.YtlcablcpcbmgeaaGreatDoor.P
