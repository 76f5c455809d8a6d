/- The pure statement of RegionRuns: the printed functions, run in the kernel, answer true. No conditions. -/
import Derived.Test.YtjgkfnbfjamccaaPx0
import Derived.Test.YtjgkfnbfjamccaaPx11
import Derived.Test.YtjgkfnbfjamccaaOpen
namespace Go.Proofs.Ytjgkfnbfjamccaa.Pure
open Go.RowKit Go.Proofs.YtjgkfnbfjamccaaW.PrintWords Go.Proofs.YtjgkfnbfjamccaaW.PrintLast Go.Proofs.YtjgkfnbfjamccaaW.PrintMore Go.Proofs.Ytjgkfnbfjamccaa.P Go.Proofs.Ytjgkfnbfjamccaa.Open

theorem RegionRuns : ∃ k, salvorlaw16_RegionRuns.f k = some true := ⟨12, by decide +kernel⟩

end Go.Proofs.Ytjgkfnbfjamccaa.Pure
