/- Laid by a program of this session's own (wip/wprint.py, over the kit's print.py): functions of the given program as plain Lean functions, and that the program's calls come to their answers. -/
import Derived.Test.YtbmhfnncagncmaaDoorPx0
import Derived.Test.YtbmhfnncagncmaaDoorOnA
namespace Go.Proofs.YtbmhfnncagncmaaDoor.P
open Go.RowKit Go.Proofs.YtbmhfnncagncmaaDoorW.PrintWords Go.Proofs.YtbmhfnncagncmaaDoorW.PrintLast Go.Proofs.YtbmhfnncagncmaaDoorW.PrintMore
attribute [local go_sem] max2_int min2_int max_two min_two max_three min_three max_four min_four   -- for this text's walks alone
set_option linter.unusedVariables false
set_option linter.unusedSimpArgs false

/-! ### arg_Only: function 9 -/
def arg_Only.f (l0 : List (S60)) (l1 : List ByteArray) : Option (Bool) := if l0.length ≤ 1000000 ∧ l1.length ≤ 1000000 then some (!outF l1 l0) else none
set_option maxHeartbeats 8000000 in
set_option maxRecDepth 100000 in
theorem arg_Only.calls (A0 : Option Addr) (c0 : Nat) (l0 : List (S60)) (A1 : Option Addr) (c1 : Nat) (l1 : List ByteArray) (r : Bool) (w : World) (hr0 : Kd.C k60 w A0 l0.length l0) (hc0 : l0.length ≤ c0) (hr1 : Kd.C Kd.string w A1 l1.length l1) (hc1 : l1.length ≤ c1) (h : arg_Only.f l0 l1 = some r) :
    Calls Tryd.prog 9 #[.slice A0 l0.length c0, .slice A1 l1.length c1] w fun e w' => e = .returned (.bool r) ∧ Below w.heap.size w w' := by
  unfold arg_Only.f at h
  by_cases h0 : l0.length ≤ 1000000 ∧ l1.length ≤ 1000000
  · rw [if_pos h0] at h
    obtain rfl := Option.some.inj h
    exact only_walk A0 c0 l0 A1 c1 l1 w hr0 hr1 (by omega) (by omega)
  · rw [if_neg h0] at h; cases h

end Go.Proofs.YtbmhfnncagncmaaDoor.P
