/- Laid by a program of this session's own (wip/wprint.py, over the kit's print.py): functions of the given program as plain Lean functions, and that the program's calls come to their answers. -/
import Derived.Test.YtabmegbapfajoaaDoorPx0
import Derived.Test.YtabmegbapfajoaaDoorTalA
namespace Go.Proofs.YtabmegbapfajoaaDoor.P
open Go.RowKit Go.Proofs.YtabmegbapfajoaaDoorW.PrintWords Go.Proofs.YtabmegbapfajoaaDoorW.PrintLast Go.Proofs.YtabmegbapfajoaaDoorW.PrintMore
attribute [local go_sem] max2_int min2_int max_two min_two max_three min_three max_four min_four   -- for this text's walks alone
set_option linter.unusedVariables false
set_option linter.unusedSimpArgs false

/-! ### salvorlaw23_TallyRuns: function 3 -/
def salvorlaw23_TallyRuns.f  : Option (Bool) := some true
set_option maxHeartbeats 8000000 in
set_option maxRecDepth 100000 in
theorem salvorlaw23_TallyRuns.calls  (r : Bool) (w : World)  (h : salvorlaw23_TallyRuns.f  = some r) (htab : TabAt w) :
    Calls Tryd.prog 3 #[] w fun e w' => e = .returned (.bool r) ∧ Below w.heap.size w w' := by
  unfold salvorlaw23_TallyRuns.f at h
  obtain rfl := Option.some.inj h
  exact tallyRuns_walk w htab

end Go.Proofs.YtabmegbapfajoaaDoor.P
