/- Laid by a program of this session's own (wip/wprint.py, over the kit's print.py): functions of the given program as plain Lean functions, and that the program's calls come to their answers. -/
import Derived.Test.YtlcablcpcbmgeaaGreatDoorPx0
import Derived.Test.YtlcablcpcbmgeaaGreatDoorMapC
namespace Go.Proofs.YtlcablcpcbmgeaaGreatDoor.P
open Go.RowKit Go.Proofs.YtlcablcpcbmgeaaGreatDoorW.PrintWords Go.Proofs.YtlcablcpcbmgeaaGreatDoorW.PrintLast Go.Proofs.YtlcablcpcbmgeaaGreatDoorW.PrintMore
attribute [local go_sem] max2_int min2_int max_two min_two max_three min_three max_four min_four   -- for this text's walks alone
set_option linter.unusedVariables false
set_option linter.unusedSimpArgs false

/-! ### maptext_Parse: function 11 -/
def maptext_Parse.f (k : Nat) (a0 : ByteArray) : Option (Int × Int × Int × (List (S23)) × Int) := parseMF k a0
theorem maptext_Parse.mono : ∀ a0 k, LeO (maptext_Parse.f k a0) (maptext_Parse.f (k + 1) a0) := fun a0 k => parseMF_mono a0 k
set_option maxHeartbeats 8000000 in
set_option maxRecDepth 100000 in
theorem maptext_Parse.calls (k : Nat) (a0 : ByteArray) (r1 : Int) (r2 : Int) (r3 : Int) (r4 : List (S23)) (r5 : Int) (w : World)  (h : maptext_Parse.f k a0 = some (r1, r2, r3, r4, r5)) (htab : TabAt w) :
    Calls Tryz.prog 11 #[.string a0] w fun e w' => ∃ v3_ : Value, e = .returned (.tuple #[.agg #[.int .i64 r1, .int .i64 r2, .int .u8 r3, v3_], .int .i64 r5]) ∧ Kd.R k23 23 w' w.heap.size (fun _ => True) v3_ r4 ∧ Below w.heap.size w w' := by
  exact parseM_walk k a0 r1 r2 r3 r4 r5 w htab h

end Go.Proofs.YtlcablcpcbmgeaaGreatDoor.P
