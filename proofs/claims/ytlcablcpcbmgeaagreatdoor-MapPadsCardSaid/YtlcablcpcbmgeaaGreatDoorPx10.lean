/- Laid by a program of this session's own (wip/wprint.py, over the kit's print.py): functions of the given program as plain Lean functions, and that the program's calls come to their answers. -/
import Derived.Test.YtlcablcpcbmgeaaGreatDoorPx0
import Derived.Test.YtlcablcpcbmgeaaGreatDoorMapB
namespace Go.Proofs.YtlcablcpcbmgeaaGreatDoor.P
open Go.RowKit Go.Proofs.YtlcablcpcbmgeaaGreatDoorW.PrintWords Go.Proofs.YtlcablcpcbmgeaaGreatDoorW.PrintLast Go.Proofs.YtlcablcpcbmgeaaGreatDoorW.PrintMore
attribute [local go_sem] max2_int min2_int max_two min_two max_three min_three max_four min_four   -- for this text's walks alone
set_option linter.unusedVariables false
set_option linter.unusedSimpArgs false

/-! ### maptext_Print: function 10 -/
def maptext_Print.f (k : Nat) (a0_0 : Int) (a0_1 : Int) (a0_2 : Int) (l0_3 : List (S23)) : Option (ByteArray) := printF k a0_0 a0_1 a0_2 l0_3
theorem maptext_Print.mono : ∀ a0 a1 a2 a3 k, LeO (maptext_Print.f k a0 a1 a2 a3) (maptext_Print.f (k + 1) a0 a1 a2 a3) := fun a0 a1 a2 a3 k => printF_mono a0 a1 a2 a3 k
set_option maxHeartbeats 8000000 in
set_option maxRecDepth 100000 in
theorem maptext_Print.calls (k : Nat) (a0_0 : Int) (a0_1 : Int) (a0_2 : Int) (A0_3 : Option Addr) (c0_3 : Nat) (l0_3 : List (S23)) (r : ByteArray) (w : World) (hr0_3 : Kd.C k23 w A0_3 l0_3.length l0_3) (hc0_3 : l0_3.length ≤ c0_3) (h : maptext_Print.f k a0_0 a0_1 a0_2 l0_3 = some r) (htab : TabAt w) :
    Calls Tryz.prog 10 #[.agg #[.int .i64 a0_0, .int .i64 a0_1, .int .u8 a0_2, .slice A0_3 l0_3.length c0_3]] w fun e w' => e = .returned (.string r) ∧ Below w.heap.size w w' := by
  exact print_walk k a0_0 a0_1 a0_2 A0_3 c0_3 l0_3 r w hr0_3 hc0_3 htab h

end Go.Proofs.YtlcablcpcbmgeaaGreatDoor.P
