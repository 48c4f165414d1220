/- What the cells of TemplateBuilds's argument types read as. -/
import Derived.Test.YtdlbmajilmmapaaTold
namespace Go.Proofs.Ytdlbmajilmmapaa.F
open Go.RowKit Go.Proofs.YtdlbmajilmmapaaW.PrintWords
theorem told3 : Told (Kd.int .i64) Try.prog 3 (fun x : Int => (Lit.int .i64 x).wf = true) := Told.int Try.underlying3 (by kernel_rfl)
theorem told9 : Told Kd.string Try.prog 9 (fun x : ByteArray => x.size ≤ reachBytes) := Told.string Try.underlying9 (by kernel_rfl)
theorem told117 : Told k117 Try.prog 117 (fun x : S117 => ((Lit.int .i64 x.f0).wf = true ∧ x.f1.size ≤ reachBytes)) := Told.struct (fun x_ : S117 => (x_.f0, x_.f1)) (fun y_ => ⟨y_.1, y_.2⟩) (fun _ => rfl) Try.underlying117 (by kernel_rfl) (ToldF.cons told3 (ToldF.one told9))
theorem told55 : Told k55 Try.prog 55 (fun x : S55 => ((Lit.int .i64 x.f0).wf = true ∧ (Lit.int .i64 x.f1).wf = true)) := Told.struct (fun x_ : S55 => (x_.f0, x_.f1)) (fun y_ => ⟨y_.1, y_.2⟩) (fun _ => rfl) Try.underlying55 (by kernel_rfl) (ToldF.cons told3 (ToldF.one told3))
end Go.Proofs.Ytdlbmajilmmapaa.F
