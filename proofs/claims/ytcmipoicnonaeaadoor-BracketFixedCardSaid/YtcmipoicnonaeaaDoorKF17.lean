/- Texts of this claim, 17 of 19: PureBracketFixed. -/

import Derived.Test.YtcmipoicnonaeaaDoorKF16
section
namespace Go.Proofs.YtcmipoicnonaeaaDoor.Pure
open Go.Proofs.YtcmipoicnonaeaaDoor.F
theorem BracketFixed : ∃ k, runnellaw03_BracketFixed.f k = some true := ⟨400, runnellaw03_BracketFixed.at400⟩
end Go.Proofs.YtcmipoicnonaeaaDoor.Pure
end
