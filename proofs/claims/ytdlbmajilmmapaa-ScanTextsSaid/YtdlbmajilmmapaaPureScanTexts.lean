/- Of layer 17 (scan): for every text and place Text answers what the reference answers. No condition. -/
import Derived.Test.YtdlbmajilmmapaaScanPure3
namespace Go.Proofs.Ytdlbmajilmmapaa.Pure
open Go.RowKit Go.Proofs.Ytdlbmajilmmapaa.F Go.Proofs.YtdlbmajilmmapaaW.PrintWords Go.Proofs.YtdlbmajilmmapaaW.PrintLast

theorem ScanTexts : runnellaw17_ScanTexts.Pure := by
  intro s a hs _
  refine ⟨3 * s.size + 60, ?_⟩
  unfold runnellaw17_ScanTexts.f
  rw [scan_Text_is s hs a _ (by omega), Option.bind_some, ref_Text_is s hs a _ (by omega), Option.bind_some]
  rw [at_rounds (g := runnellaw17_awake.f) runnellaw17_awake.mono (show 40 ≤ 3 * s.size + 60 by omega) awake17, Option.bind_some, if_pos rfl]
  rw [if_pos rfl, if_pos rfl]
  simp

end Go.Proofs.Ytdlbmajilmmapaa.Pure
