/- What the cells of TemplatePlain's argument types read as. -/
import Derived.Test.YtdlbmajilmmapaaTold
namespace Go.Proofs.Ytdlbmajilmmapaa.F
open Go.RowKit Go.Proofs.YtdlbmajilmmapaaW.PrintWords
theorem told3 : Told (Kd.int .i64) Try.prog 3 (fun x : Int => (Lit.int .i64 x).wf = true) := Told.int Try.underlying3 (by kernel_rfl)
theorem told55 : Told k55 Try.prog 55 (fun x : S55 => ((Lit.int .i64 x.f0).wf = true ∧ (Lit.int .i64 x.f1).wf = true)) := Told.struct (fun x_ : S55 => (x_.f0, x_.f1)) (fun y_ => ⟨y_.1, y_.2⟩) (fun _ => rfl) Try.underlying55 (by kernel_rfl) (ToldF.cons told3 (ToldF.one told3))
end Go.Proofs.Ytdlbmajilmmapaa.F
