/- The plain law of ArgRuns: the closed run's answer. No conditions. -/
import Derived.Test.YtlginoicaeonhaaDoorPx0
import Derived.Test.YtlginoicaeonhaaDoorPx12
namespace Go.Proofs.YtlginoicaeonhaaDoor.Pure
open Go.RowKit Go.Proofs.YtlginoicaeonhaaDoorW.PrintWords Go.Proofs.YtlginoicaeonhaaDoorW.PrintLast Go.Proofs.YtlginoicaeonhaaDoor.P
set_option maxRecDepth 100000 in
theorem ArgRuns : ∃ k, salvorlaw9_ArgRuns.f k = some true := ⟨20, by decide +kernel⟩
end Go.Proofs.YtlginoicaeonhaaDoor.Pure
