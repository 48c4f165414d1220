-- Made by a program of this session (wip/tools/pr.py over the kit's printer). Not trusted: Lean checks it.
import Derived.Test.YtdlbmajilmmapaaDoorFx
import Derived.Test.YtdlbmajilmmapaaDoorF23
namespace Go.Proofs.YtdlbmajilmmapaaDoor.F
open Go.RowKit Go.Proofs.YtdlbmajilmmapaaDoorW.PrintWords Go.Proofs.YtdlbmajilmmapaaDoorW.PrintLast Go.Proofs.YtdlbmajilmmapaaDoorW.PrintMore
attribute [local go_sem] max2_int min2_int max_two min_two max_three min_three max_four min_four
set_option linter.unusedVariables false
set_option linter.unusedSimpArgs false

/-! ### scan_keeps: function 47 -/
def scan_keeps.f (a0 : Int) : Option (Bool) := (strings_IndexByte.f (⟨#[46, 91, 42, 94, 36, 38]⟩ : ByteArray) a0).bind fun t125 => (some (decide (t125 ≥ 0)))
set_option maxHeartbeats 8000000 in
set_option maxRecDepth 100000 in
theorem scan_keeps.calls (a0 : Int) (r : Bool) (w : World) (h : scan_keeps.f a0 = some r) :
    Calls Tryd.prog 47 #[.int .u8 a0] w fun e w' => e = .returned (.bool r) ∧ Drawn0 w w' := by
  have H : ((strings_IndexByte.f (⟨#[46, 91, 42, 94, 36, 38]⟩ : ByteArray) a0).bind fun t125 => (some (decide (t125 ≥ 0)))) = some r := h
  clear h
  replace H := Option.bind_eq_some_iff.mp H
  obtain ⟨t125, A20, H⟩ := H
  replace H : (some (decide (t125 ≥ 0))) = some r := H
  have A2 := Aside0.mk A20
  clear A20
  obtain rfl := Option.some.inj H
  go_enter Tryd.func47, Tryd.ntmps47
  go_wp2_with (first | ((with_reducible refine gate_callee (f := 23) rfl ?_); refine goesL_ (some 4) rfl rfl Tryd.func23 (by kernel_rfl) rfl #[.string (⟨#[46, 91, 42, 94, 36, 38]⟩ : ByteArray), .int .u8 a0] rfl (by (try simp only [List.map_toArray, List.map_cons, List.map_nil]); first | done | rfl | (simp only [List.length_drop, List.length_take]; rfl)) ?_; (with_reducible refine (strings_IndexByte.calls (⟨#[46, 91, 42, 94, 36, 38]⟩ : ByteArray) a0 t125 _ A2.out).mono ?_); rintro e w' ⟨rfl, ⟨nd, rfl⟩⟩; refine ⟨_, rfl, ?_⟩))
  go_ret
  exact ⟨by first | rfl | (simp only [wrap_wrap]; done) | (simp only [wrap_wrap]; rfl) | (simp; done) | (simp [*]; done), by repeat (first | exact Drawn0.refl _ | apply Drawn0.step)⟩

end Go.Proofs.YtdlbmajilmmapaaDoor.F
