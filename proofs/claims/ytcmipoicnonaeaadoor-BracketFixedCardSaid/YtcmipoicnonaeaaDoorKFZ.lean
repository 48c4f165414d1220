/- BracketFixed: for every input the law returns true, and the input reads behind the call as it did: the tied card. (What the row lists, deBruijn's table, is as the program's text lays it; bytealg's MaxLen holds some number.) -/
import Derived.Test.YtcmipoicnonaeaaDoorRows
import Derived.Test.YtcmipoicnonaeaaDoorCards
import Derived.Test.YtcmipoicnonaeaaDoorTie
import Derived.WalkKit
import Derived.ProofKit
import Derived.OpenShut
import Derived.ShutString
import Derived.ChangeOld
import Derived.Below
import Derived.SizedLaws
import Derived.Lay
import Derived.LaidLaws
import Derived.LaidMore
import Derived.SevenTiedAt
import Derived.Test.YtcmipoicnonaeaaDoorKF16
import Derived.Test.YtcmipoicnonaeaaDoorKF17
import Derived.Test.YtcmipoicnonaeaaDoorKF18
import Derived.Test.YtcmipoicnonaeaaDoorKF19
namespace Go.Proofs.YtcmipoicnonaeaaDoor.bracketFixed
open Go.ChangeShapes Go.WideShapes Go.ChangeAt Go.RowKit
open Go.ChangeMaps (open_string shut_string)
set_option linter.unusedVariables false
theorem own : ownKnob Tryd.prog.godebug = none := by kernel_rfl
set_option maxRecDepth 100000 in
theorem lifted (os : Os) (started : os.Started) (H : Type) (enc : TypeId × Value → H) :
    ReturnsInHanded {} Tryd.checked os 8 .any (fun w args => (Rows.bracketFixedSpec.pre enc Tryd.prog Tryd.f8 Rows.bracketFixedRow.domain false w args ∧ laidMetH Tryd.prog Rows.bracketFixedRow.laid w) ∧ sizedMet enc Tryd.prog Tryd.f8 (OpenSpec.ofChange Rows.bracketFixedSpec) false w args) (Rows.bracketFixedSpec.post enc Tryd.prog Tryd.f8 false true false false) := by
  refine F.returns_both (C := Tryd.checked) (X := fun w _ => laidMetH Tryd.prog Rows.bracketFixedRow.laid w) (fun _ _ _ hh h => h.of_heap hh) own started (by kernel_rfl) Tryd.func8
    (ChangeSpec.witness_shaped (enc := enc) (C := Tryd.checked) (os := os) (X := fun w _ => laidMetH Tryd.prog Rows.bracketFixedRow.laid w) false (World.laidAll Tryd.prog os Rows.bracketFixedRow.laid) #[] 8 (World.laidAll_os _ _ _)
      (World.shaped_of_ZipB (by kernel_rfl) (by kernel_rfl)) (by kernel_rfl) (by kernel_rfl) (by kernel_rfl)
      (by rw [MakeChecks.laidMetH_plain _ _ _ (by kernel_rfl)]; exact laidMet_laidAll _ (by kernel_rfl) (by kernel_rfl))) ?_
  intro W base args ds gs before hval0 hW hcnd hsz0 hL hSh
  have hsz : (DataW.weightsEach Tryd.prog (Tryd.f8.params.toList ++ Rows.bracketFixedSpec.plain.varTypes Tryd.prog) (ds ++ gs)).all (· ≤ reachBytes) = true := hsz0
  have hval : ∀ (j : Nat) t v, Tryd.f8.params[j]? = some t → args[j]? = some v → Value.okWide Tryd.prog W .any base t v := hval0
  have hW' := hW
  obtain ⟨p, q, hA0, hV, rfl, hfz, hnd⟩ := hW
  have hA : DataW.TrodAll enc Tryd.prog W 0 (fun _ => true) true Tryd.f8.params.toList args.toList ds p := hA0
  rw [Tryd.params8] at hA hval hsz
  obtain ⟨rfl, rfl, rfl⟩ := trodAll_none hA
  obtain ⟨rfl, rfl⟩ := trodVars_none hV
  obtain ⟨k, hk⟩ := Pure.BracketFixed 
  refine (F.runnellaw03_BracketFixed.calls k  true W (F.md_of hL hSh) hk).mono fun e W' ⟨he, bel⟩ => ?_
  subst he
  exact ⟨_, rfl, _, _, _, [], _, [], hW', trodAll_mk1 (shut_bool Tryd.underlying4 _), trodAll_mk0, rfl, bel.frame _, fun h => by cases h⟩
theorem over : Rows.bracketFixedRow.holds Tryd.pinned (OpenSpec.ofChange Rows.bracketFixedSpec) :=
  OpenClaim.holds_of_wide 8 Tryd.f8 rfl rfl rfl rfl rfl rfl rfl ⟨rfl, rfl, rfl, rfl, rfl⟩ rfl rfl rfl rfl rfl (by kernel_rfl) Tryd.func8 (by kernel_rfl)
    (of_decide_eq_true (by kernel_rfl)) (by unfold Func.isWrapper; first | (rw [if_pos (by decide +kernel)]; kernel_rfl) | (rw [if_neg (by decide +kernel)]; exact ⟨rfl, rfl⟩))
    (fun os started H enc _ => lifted os started H enc)
theorem proved : Rows.BracketFixedSaid := over
theorem card : Rows.BracketFixedCardSaid :=
  Claim7.holds_tied_plain_at .later [] [.data] true (true, "b22224c649c439fd476d4367c02d8a5cd3b90582e403a874a9d0dedbf9e6eb6c") false
    proved (fun _ h => by cases h) (by kernel_rfl) (fun _ h => by cases h) bracketFixed_row_tie rfl ⟨rfl, rfl⟩ (by kernel_rfl) rfl
    (fun f fn hf hfn => by
      obtain rfl : f = 8 := Option.some.inj ((show Tryd.prog.funcNamed "runnel/runnellaw03.BracketFixed" = some 8 by kernel_rfl).symm.trans hf) |>.symm
      obtain rfl : fn = Tryd.f8 := (Option.some.inj (Tryd.func8.symm.trans hfn)).symm
      refine ⟨by kernel_rfl, fun j t ht => ?_⟩
      have hall : (Tryd.f8.params.toList.all fun t => !(Tryd.prog.wantsStandIn t)) = true := by kernel_rfl
      have hm : t ∈ Tryd.f8.params.toList := List.mem_of_getElem? (i := j) (by rw [Array.getElem?_toList]; exact ht)
      exact (by simpa using List.all_eq_true.1 hall t hm : Tryd.prog.wantsStandIn t = false))
    (by kernel_rfl)
#print axioms card
end Go.Proofs.YtcmipoicnonaeaaDoor.bracketFixed
namespace Go.Proofs.YtcmipoicnonaeaaDoor
/-- The card, under a short name, for the claim. -/
theorem bracketFixedCard_holds : Rows.BracketFixedCardSaid := bracketFixed.card
end Go.Proofs.YtcmipoicnonaeaaDoor
