/- Of layer 17 (scan): for every text and place Blanks and Number answer what the reference answers. No condition. -/
import Derived.Test.YtdlbmajilmmapaaScanPure3
namespace Go.Proofs.Ytdlbmajilmmapaa.Pure
open Go.RowKit Go.Proofs.Ytdlbmajilmmapaa.F Go.Proofs.YtdlbmajilmmapaaW.PrintWords Go.Proofs.YtdlbmajilmmapaaW.PrintLast

theorem ScanMoves : runnellaw17_ScanMoves.Pure := by
  intro s a hs _
  refine ⟨3 * s.size + 60, ?_⟩
  unfold runnellaw17_ScanMoves.f
  rw [scan_Number_is s hs a _ (by omega), Option.bind_some, ref_Number_is s hs a _ (by omega), Option.bind_some]
  rw [at_rounds (g := runnellaw17_awake.f) runnellaw17_awake.mono (show 40 ≤ 3 * s.size + 60 by omega) awake17, Option.bind_some, if_pos rfl]
  rw [scan_Blanks_is s hs a _ (by omega), Option.bind_some, ref_Blanks_is s hs a _ (by omega), Option.bind_some]
  rw [if_pos rfl, if_pos rfl, if_pos rfl]
  simp

end Go.Proofs.Ytdlbmajilmmapaa.Pure
