/- Of layer 17 (scan): for every text, place, delimiter and bool Until answers what the reference answers. No condition. -/
import Derived.Test.YtdlbmajilmmapaaScanPure3
namespace Go.Proofs.Ytdlbmajilmmapaa.Pure
open Go.RowKit Go.Proofs.Ytdlbmajilmmapaa.F Go.Proofs.YtdlbmajilmmapaaW.PrintWords Go.Proofs.YtdlbmajilmmapaaW.PrintLast

theorem ScanUntils : runnellaw17_ScanUntils.Pure := by
  intro s a d lines hs _ hd
  obtain ⟨b, rfl⟩ := u8_of_wf hd
  refine ⟨3 * s.size + 60, ?_⟩
  unfold runnellaw17_ScanUntils.f
  rw [scan_Until_is s hs a b lines _ (by omega), Option.bind_some, ref_Until_is s hs a b lines _ (by omega), Option.bind_some]
  rw [at_rounds (g := runnellaw17_awake.f) runnellaw17_awake.mono (show 40 ≤ 3 * s.size + 60 by omega) awake17, Option.bind_some, if_pos rfl]
  rw [if_pos rfl, if_pos rfl]
  simp

end Go.Proofs.Ytdlbmajilmmapaa.Pure
