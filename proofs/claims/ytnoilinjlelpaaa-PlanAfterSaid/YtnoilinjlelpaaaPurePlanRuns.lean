/- The pure statement of PlanRuns: it answers true, by reckoning. No conditions. -/
import Derived.Test.YtnoilinjlelpaaaPx0
import Derived.Test.YtnoilinjlelpaaaPx19
import Derived.Test.YtnoilinjlelpaaaOpen
namespace Go.Proofs.Ytnoilinjlelpaaa.Pure
open Go.RowKit Go.Proofs.YtnoilinjlelpaaaW.PrintWords Go.Proofs.YtnoilinjlelpaaaW.PrintLast Go.Proofs.YtnoilinjlelpaaaW.PrintMore Go.Proofs.Ytnoilinjlelpaaa.P Go.Proofs.Ytnoilinjlelpaaa.Open
theorem PlanRuns : ∃ k, salvorlaw18_PlanRuns.f k = some true := ⟨12, by decide +kernel⟩
end Go.Proofs.Ytnoilinjlelpaaa.Pure
