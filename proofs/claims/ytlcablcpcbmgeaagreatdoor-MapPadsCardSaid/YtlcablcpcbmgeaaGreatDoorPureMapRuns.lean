/- The plain law of MapRuns: the closed run's answer. No conditions. -/
import Derived.Test.YtlcablcpcbmgeaaGreatDoorPx23
namespace Go.Proofs.YtlcablcpcbmgeaaGreatDoor.Pure
open Go.RowKit Go.Proofs.YtlcablcpcbmgeaaGreatDoorW.PrintWords Go.Proofs.YtlcablcpcbmgeaaGreatDoorW.PrintLast Go.Proofs.YtlcablcpcbmgeaaGreatDoor.P
set_option maxRecDepth 100000 in
theorem MapRuns : ∃ k, salvorlaw17_MapRuns.f k = some true := ⟨60, by decide +kernel⟩
end Go.Proofs.YtlcablcpcbmgeaaGreatDoor.Pure
