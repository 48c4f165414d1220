/- CheckAddresses: how many addresses each command may have, and which bytes are commands. No condition. -/
import Derived.Test.YtdlbmajilmmapaaF6
namespace Go.Proofs.Ytdlbmajilmmapaa.Pure
open Go.Proofs.Ytdlbmajilmmapaa.F
theorem CheckAddresses : runnellaw19_CheckAddresses.Pure := trivial
end Go.Proofs.Ytdlbmajilmmapaa.Pure
