/- Texts of this claim, 20 of 29: BreRound. -/
import Derived.Deep.RegionLaw
import Derived.OrdersIn
import Derived.Test.YtcmipoicnonaeaaKS5
section
namespace Go.Proofs.Ytcmipoicnonaeaa.F
open Go.RowKit
set_option linter.unusedVariables false
set_option linter.unusedSimpArgs false
variable {P : Program}
theorem uponIn_of {l n : Nat} {o : Oper} {a : Act} {next : Act → World → Prop} {Q : Exit → Act → World → Prop} {r : Result Next} (h : o.upon P a next Q r) : o.uponIn (Fence.wide.inRound l) n P a next Q r := by
  cases r with
  | ok x w' =>
    cases x with
    | value v => exact h
    | skip => exact h
    | defer d => exact h
    | enter f args => exact ⟨fun e => (by simp [Fence.wide] at e), CallsIn.inRound l (callsIn_wide.2 (Calls.mono h (fun e w'' he => by cases e <;> exact he)))⟩
    | row row args => exact ⟨fun e => (by simp [Fence.wide] at e), fun c cs _ => let ⟨v, w', r, s⟩ := h c cs; ⟨v, w', r, stepsIn_wide.2 s⟩⟩
    | _ => exact h.elim
  | halt x w' => cases x <;> first | exact h | exact h.elim
theorem qfa {l n : Nat} {md : Region.Mode} {ops : Array Oper} {Q : Exit → Act → World → Prop} (hnd : ∀ (i : Nat) (o : Oper), ops[i]? = some o → ∀ c, o.op ≠ .defer c) (hQ : ¬ LetsOut Q) :
    ∀ (fuel : Nat) (listed : Array Bool) (a : Act) (w : World), wpAny P md ops Q fuel listed a w → wpAnyIn (Fence.wide.inRound l) n P md ops Q fuel listed a w
  | 0, _, _, _, h => h
  | fuel + 1, listed, a, w, ⟨h0, h1⟩ => by
    refine ⟨h0, fun i hi => ?_⟩
    have h := h1 i hi
    unfold wpOp at h
    unfold wpOpIn
    cases ho : ops[i]? with
    | none =>
      rw [ho] at h
      exact qfa hnd hQ fuel _ _ _ h
    | some o =>
      rw [ho] at h
      dsimp only at h ⊢
      by_cases hw : Region.wanted o (yielded ops a.tmps) = true
      · rw [if_pos hw] at h ⊢
        rcases h with h | h
        · refine ⟨fun _ _ => trivial, ?_⟩
          rw [show (Fence.wide.inRound l).round = some l from rfl, Oper.semAt_some _ _ _ (hnd i o ho)]
          exact uponIn_of (Oper.wp_mono (fun a w hk => qfa hnd hQ fuel _ _ _ hk) h)
        · exact absurd h.2 hQ
      · rw [if_neg hw] at h ⊢
        exact ⟨fun _ _ => trivial, qfa hnd hQ fuel _ _ _ h⟩
theorem region_round {l n : Nat} {id : Nat} {ops : Array Oper} {K : Act → World → Prop} {X : Exit → Act → World → Prop} {a : Act} {w : World} (hm : P.follows .mixedOrders = true) (hnd : ∀ (i : Nat) (o : Oper), ops[i]? = some o → ∀ c, o.op ≠ .defer c)
    (h : wpAny P .any ops (Exit.then K (fun _ _ _ => False)) ops.size (Array.replicate ops.size false) a w.drew) : (Code.region id ops true).wpIn (Fence.wide.inRound l) n P (Exit.then K X) a w :=
  wpIn_mono (wpIn_region_any hm (qfa hnd (fun ⟨a, w, h⟩ => h) _ _ _ _ h)) (by intro e a w h; cases e <;> first | exact h | exact h.elim)
end Go.Proofs.Ytcmipoicnonaeaa.F
end
