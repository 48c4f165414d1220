/- What the cells of CheckLabels's argument types read as. -/
import Derived.Test.YtdlbmajilmmapaaTold
namespace Go.Proofs.Ytdlbmajilmmapaa.F
open Go.RowKit Go.Proofs.YtdlbmajilmmapaaW.PrintWords
set_option linter.unusedVariables false
theorem told9 : Told Kd.string Try.prog 9 (fun x : ByteArray => x.size ≤ reachBytes) := Told.string Try.underlying9 (by kernel_rfl)
theorem told5 : Told (Kd.int .u8) Try.prog 5 (fun x : Int => (Lit.int .u8 x).wf = true) := Told.int Try.underlying5 (by kernel_rfl)
end Go.Proofs.Ytdlbmajilmmapaa.F
