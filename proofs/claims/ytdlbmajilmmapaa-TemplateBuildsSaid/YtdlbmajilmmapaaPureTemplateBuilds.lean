/- Of layer 13 (template): for all parts, subjects and spans Build answers what the reference answers. No condition. -/
import Derived.Test.YtdlbmajilmmapaaF8
import Derived.Test.YtdlbmajilmmapaaPureTemplate
import Derived.Test.YtdlbmajilmmapaaPureDocBuild
import Derived.Test.YtdlbmajilmmapaaTTemplateBuilds
namespace Go.Proofs.Ytdlbmajilmmapaa.Pure
open Go.RowKit Go.Proofs.Ytdlbmajilmmapaa.F Go.Proofs.YtdlbmajilmmapaaW.PrintWords Go.Proofs.YtdlbmajilmmapaaW.PrintLast

set_option linter.unusedVariables false in
theorem TemplateBuilds (A0 : Option Addr) (c0 : Nat) (l0 : List S117) (a1 : ByteArray) (A2 : Option Addr) (c2 : Nat) (l2 : List S55) (w : World) (hr0 : Kd.C k117 w A0 l0.length l0) (hc0 : l0.length ≤ c0)
    (g0 : l0.length * Try.prog.bytesOf 117 ≤ reachBytes ∧ ∀ a ∈ l0, ((Lit.int .i64 a.f0).wf = true ∧ a.f1.size ≤ reachBytes)) (h1 : a1.size ≤ reachBytes) (hr2 : Kd.C k55 w A2 l2.length l2) (hc2 : l2.length ≤ c2)
    (g2 : l2.length * Try.prog.bytesOf 55 ≤ reachBytes ∧ ∀ a ∈ l2, ((Lit.int .i64 a.f0).wf = true ∧ (Lit.int .i64 a.f1).wf = true)) :
    Calls Try.prog 8 #[.slice A0 l0.length c0, .string a1, .slice A2 l2.length c2] w fun e w' => e = .returned (.bool true) ∧ Below w.heap.size w w' := by
  have hlen : l0.length ≤ 9007199254740992 := by
    have h := g0.1
    rw [show Try.prog.bytesOf 117 = 24 from by kernel_rfl] at h
    have := reachBytes_lt
    omega
  have hfit : fitT l0 a1 = true := fit_of (fun p hp => (g0.2 p hp).2) h1
  have hk : ∃ k, runnellaw13_TemplateBuilds.f k l0 a1 l2 = some true := by
    refine ⟨2 * l0.length + 10, ?_⟩
    obtain ⟨r, hr⟩ := buildT_some a1 l2 l0 []
    have hd := doc_build a1 l2 l0 h1 (fun p hp => (g0.2 p hp).2) hlen l0.length 0 [] r (Nat.zero_add _) (Nat.zero_le _) (by rw [List.drop_zero]; exact hr)
    unfold runnellaw13_TemplateBuilds.f template_Build.f runnelref13_DocBuild.f
    have hd2 : runnelref13_DocBuild.l0 (2 * l0.length + 10) l0 a1 l2 (bts []) ((0 : Nat) : Int) = some r := at_rounds (g := fun k => runnelref13_DocBuild.l0 k l0 a1 l2 (bts []) ((0 : Nat) : Int)) (fun k => (runnelref13_DocBuild.mono_l k).1 _ _ _ _ _) (by omega) hd
    rw [if_pos hfit, hr, Option.bind_some, show ([] : List Int) = bts [] from rfl, show (0 : Int) = ((0 : Nat) : Int) from rfl, hd2, Option.bind_some, at_rounds (g := runnellaw13_awake.f) runnellaw13_awake.mono (show 6 ≤ 2 * l0.length + 10 by omega) awake13, Option.bind_some, if_pos rfl, if_pos rfl]
    simp
  obtain ⟨k, hk⟩ := hk
  exact runnellaw13_TemplateBuilds.calls k A0 c0 l0 a1 A2 c2 l2 true w hr0 hc0 hr2 hc2 hk

end Go.Proofs.Ytdlbmajilmmapaa.Pure
