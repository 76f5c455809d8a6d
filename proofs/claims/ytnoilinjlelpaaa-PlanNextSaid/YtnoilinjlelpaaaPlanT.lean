/- The reference's copies of maps, their statuses, and that a map is the same as itself. No conditions beyond those that the lemmas name. -/
import Derived.Test.YtnoilinjlelpaaaPx0
import Derived.Test.YtnoilinjlelpaaaPx20
import Derived.Test.YtnoilinjlelpaaaPx21
import Derived.Test.YtnoilinjlelpaaaPx33
import Derived.Test.YtnoilinjlelpaaaPlanR
import Derived.Test.YtnoilinjlelpaaaRegS
namespace Go.Proofs.Ytnoilinjlelpaaa.Reg
set_option linter.unusedSimpArgs false
set_option linter.unusedVariables false
open Go.RowKit Go.Proofs.YtnoilinjlelpaaaW.PrintWords Go.Proofs.YtnoilinjlelpaaaW.PrintLast Go.Proofs.YtnoilinjlelpaaaW.PrintMore Go.Proofs.Ytnoilinjlelpaaa.P

theorem refcopy_eq (p q s : Int) {l : List S33} (hlen : l.length ≤ 1000000) : salvorref16_CopyMap.f p q s l = some (p, q, s, l) := by
  unfold salvorref16_CopyMap.f
  simp only [List.length_nil, List.nil_append]
  rw [if_pos (by omega)]
theorem reftold_ev {c r : Int} {b : Bool} {p q s : Int} {l : List S33} (ho : optsD c r = true) (hm : mapD p q s l = true) : Ev (fun k => salvorref16_told.f k c r b p q s l) (p, q, statD (nextD c r b p q l).1, l) := by
  unfold salvorref16_told.f salvorref16_Next.f
  refine Ev.bind (Ev.bind (refnext_ev ho hm) (Ev.now _)) ?_
  rw [statusOf_eq]
  exact Ev.now _
theorem samemap_self (p q s : Int) (l : List S33) (hlen : l.length ≤ 4611686018427387904) : Ev (fun k => salvorref16_SameMap.f k p q s l p q s l) true := by
  unfold salvorref16_SameMap.f
  simp only [if_true]
  exact Ev.bind (same_self l hlen) (Ev.now _)
end Go.Proofs.Ytnoilinjlelpaaa.Reg
