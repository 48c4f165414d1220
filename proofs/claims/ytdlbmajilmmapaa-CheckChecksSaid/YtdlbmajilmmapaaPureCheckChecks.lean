/- Of layer 19 (check): for every list of commands Check answers what the reference answers; the list stays as it was, spare room too. No condition. -/
import Derived.Test.YtdlbmajilmmapaaF3
import Derived.Test.YtdlbmajilmmapaaPureCheck
import Derived.Test.YtdlbmajilmmapaaTCheckChecks
namespace Go.Proofs.Ytdlbmajilmmapaa.Pure
open Go.RowKit Go.Proofs.Ytdlbmajilmmapaa.F Go.Proofs.YtdlbmajilmmapaaW.PrintWords Go.Proofs.YtdlbmajilmmapaaW.PrintLast

def goodC (x : S27) : Prop := ((Lit.int .i64 x.f0).wf = true ∧ (((Lit.int .i64 x.f1.f0).wf = true ∧ ((Lit.int .i64 x.f1.f1).wf = true ∧ x.f1.f2.size ≤ reachBytes)) ∧ (((Lit.int .i64 x.f2.f0).wf = true ∧ ((Lit.int .i64 x.f2.f1).wf = true ∧ x.f2.f2.size ≤ reachBytes)) ∧ (True ∧ ((Lit.int .u8 x.f4).wf = true ∧ (x.f5.size ≤ reachBytes ∧ (x.f6.size ≤ reachBytes ∧ (x.f7.size ≤ reachBytes ∧ (x.f8.size ≤ reachBytes ∧ ((x.f9.length * Try.prog.bytesOf 117 ≤ reachBytes ∧ ∀ a_ ∈ x.f9, ((Lit.int .i64 a_.f0).wf = true ∧ a_.f1.size ≤ reachBytes)) ∧ ((Lit.int .i64 x.f10).wf = true ∧ (True ∧ (True ∧ (x.f13.size ≤ reachBytes ∧ x.f14.size ≤ reachBytes))))))))))))))
theorem same18 (c : S27) (hp : c.f9.length ≤ 9007199254740992) (b : Bool) : runnelref18_Same.f c.f0 c.f1.f0 c.f1.f1 c.f1.f2 c.f2.f0 c.f2.f1 c.f2.f2 c.f3 c.f4 c.f5 c.f6 c.f7 c.f8 c.f9 c.f10 c.f11 c.f12 c.f13 c.f14 c.f0 c.f1.f0 c.f1.f1 c.f1.f2 c.f2.f0 c.f2.f1 c.f2.f2 c.f3 c.f4 c.f5 c.f6 c.f7 c.f8 c.f9 c.f10 c.f11 c.f12 c.f13 c.f14 b = some true := by
  unfold runnelref18_Same.f
  rw [if_pos (by simp [samePs_self]), if_pos hp]
theorem list18 (l : List S27) (hl : l.length ≤ 9007199254740992) (hp : ∀ c ∈ l, c.f9.length ≤ 9007199254740992) : ∀ (n i : Nat), i + n = l.length → runnelref18_SameList.l0 (n + 1) l l true (i : Int) = some true := by
  intro n
  induction n with
  | zero => intro i h; rw [runnelref18_SameList.l0, if_neg (by omega)]
  | succ n ih =>
    intro i h
    have hil : i < l.length := by omega
    rw [runnelref18_SameList.l0, if_pos (by omega), if_pos (by omega), if_pos (by omega), rd_get l i hil, same18 _ (hp _ (List.getElem_mem hil)), Option.bind_some, if_pos rfl, F.wrap_one (by omega)]
    exact ih (i + 1) (by omega)
theorem awake19 : runnellaw19_awake.f = some true := by kernel_rfl
theorem reach_is : reachBytes = 140737488351232 := by decide

theorem CheckChecks (A0 : Option Addr) (c0 : Nat) (l0 : List S27) (w : World) (hC : Kd.C k27 w A0 l0.length l0) (hc : l0.length ≤ c0) (g : l0.length * Try.prog.bytesOf 27 ≤ reachBytes ∧ ∀ a ∈ l0, goodC a) :
    Calls Try.prog 3 #[.slice A0 l0.length c0] w fun e w' => e = .returned (.bool true) ∧ Below w.heap.size w w' := by
  have hlen : l0.length * 216 ≤ 140737488351232 := by
    have h := g.1
    rw [show Try.prog.bytesOf 27 = 216 from by kernel_rfl, reach_is] at h
    exact h
  have hw : ∀ c ∈ l0, ∃ b : UInt8, c.f4 = (b.toNat : Int) := fun c hc => u8_of_wf (g.2 c hc).2.2.2.2.1
  have hfit : fitC l0 = true := by
    unfold fitC
    rw [List.all_eq_true]
    intro c hc
    have h := (g.2 c hc).2.2.2.2.2.1
    rw [reach_is] at h
    exact decide_eq_true (by omega)
  have hp : ∀ c ∈ l0, c.f9.length ≤ 9007199254740992 := fun c hc => by
    have h := (g.2 c hc).2.2.2.2.2.2.2.2.2.1.1
    rw [show Try.prog.bytesOf 117 = 24 from by kernel_rfl, reach_is] at h
    omega
  obtain ⟨p, h1, h2⟩ := check_doc l0 (by omega) hw hfit
  have hk : runnellaw19_CheckChecks.f (l0.length + 1) l0 = some true := by
    unfold runnellaw19_CheckChecks.f
    obtain ⟨m, hm⟩ : ∃ m : S27, (⟨0, (⟨0, 0, (⟨#[]⟩ : ByteArray)⟩ : S24), (⟨0, 0, (⟨#[]⟩ : ByteArray)⟩ : S24), false, 77, (⟨#[]⟩ : ByteArray), (⟨#[]⟩ : ByteArray), (⟨#[]⟩ : ByteArray), (⟨#[]⟩ : ByteArray), ([] : List (S117)), 0, false, false, (⟨#[]⟩ : ByteArray), (⟨#[]⟩ : ByteArray)⟩ : S27) = m := ⟨_, rfl⟩
    have hm4 : m.f4 = 77 := by rw [← hm]
    have hl : (l0 ++ [m]).length = l0.length + 1 := by simp
    have ht : (l0 ++ [m]).take l0.length = l0 := by simp
    have hs : runnelref18_SameList.f (l0.length + 1) l0 l0 true = some true := by
      unfold runnelref18_SameList.f
      rw [if_pos rfl]
      exact list18 l0 (by omega) hp l0.length 0 (by omega)
    rw [hm, List.nil_append, if_pos (by simp; omega), Option.bind_some, if_pos (by omega), Option.bind_some, if_pos (by omega), if_pos (by rw [hl]; omega), show ((l0.length : Int)).toNat = l0.length from rfl, ht, h1, Option.bind_some, h2, Option.bind_some, awake19, Option.bind_some, if_pos rfl, if_pos (by simp), hs, Option.bind_some, if_pos rfl, if_pos (by rw [hl]; omega)]
    rw [rd_get (l0 ++ [m]) l0.length (by rw [hl]; omega)]
    simp [hm4]
  exact runnellaw19_CheckChecks.calls (l0.length + 1) (fun k => k < w.heap.size) A0 c0 l0 true w (Kd.V_mk hc (Kd.C_F k27_heap hC)) hk

end Go.Proofs.Ytdlbmajilmmapaa.Pure
