-- Made by a program of this session (wip/tools/pr.py over the kit's printer). Not trusted: Lean checks it.
import Derived.Test.YtdlbmajilmmapaaDoorFx
import Derived.Test.YtdlbmajilmmapaaDoorF7
import Derived.Test.YtdlbmajilmmapaaDoorF23
import Derived.Test.YtdlbmajilmmapaaDoorF25
namespace Go.Proofs.YtdlbmajilmmapaaDoor.F
open Go.RowKit Go.Proofs.YtdlbmajilmmapaaDoorW.PrintWords Go.Proofs.YtdlbmajilmmapaaDoorW.PrintLast Go.Proofs.YtdlbmajilmmapaaDoorW.PrintMore
attribute [local go_sem] max2_int min2_int max_two min_two max_three min_three max_four min_four
set_option linter.unusedVariables false
set_option linter.unusedSimpArgs false

/-! ### scan_Word: function 9 -/
def scan_Word.f (k : Nat) (a0 : ByteArray) (a1 : Int) : Option (ByteArray × Int) := (scan_Line.f k a0 a1).bind fun bt107 => ((strings_IndexByte.f bt107.1 59).bind fun t109 => (if t109 ≥ 0 then (if 0 ≤ t109 then (if t109 ≤ (bt107.1.size : Int) then ((strings_TrimRight.f (bt107.1.extract 0 (t109 : Int).toNat) (⟨#[32, 9]⟩ : ByteArray)).bind fun t110 => (some (t110, wrap64 (bt107.2 - (wrap64 ((bt107.1.size : Int) - t109)))))) else (none)) else (none)) else ((strings_TrimRight.f bt107.1 (⟨#[32, 9]⟩ : ByteArray)).bind fun t111 => (some (t111, bt107.2)))))
theorem scan_Word.mono : ∀ a0 a1 k, LeO (scan_Word.f k a0 a1) (scan_Word.f (k + 1) a0 a1) := by
  intro a0 a1 k
  unfold scan_Word.f
  repeat' first
      | (with_reducible exact scan_Line.mono _ _ _)
      | (with_reducible exact LeO.refl _)
      | (with_reducible exact LeO.none _)
      | (with_reducible refine LeO.ite ?_ ?_)
      | (with_reducible refine LeO.bind ?_ (fun _ => ?_))
      | exact scan_Line.mono _ _ _
      | exact LeO.none _
      | refine LeO.ite ?_ ?_
      | refine LeO.bind ?_ (fun _ => ?_)
set_option maxHeartbeats 8000000 in
set_option maxRecDepth 100000 in
theorem scan_Word.calls (k : Nat) (a0 : ByteArray) (a1 : Int) (r1 : ByteArray) (r2 : Int) (w : World) (h : scan_Word.f k a0 a1 = some (r1, r2)) :
    Calls Tryd.prog 9 #[.string a0, .int .i64 a1] w fun e w' => e = .returned (.tuple #[.string r1, .int .i64 r2]) ∧ Below w.heap.size w w' := by
  have HB := Aside0.mk (Below.refl w.heap.size w)
  have H : ((scan_Line.f k a0 a1).bind fun bt107 => ((strings_IndexByte.f bt107.1 59).bind fun t109 => (if t109 ≥ 0 then (if 0 ≤ t109 then (if t109 ≤ (bt107.1.size : Int) then ((strings_TrimRight.f (bt107.1.extract 0 (t109 : Int).toNat) (⟨#[32, 9]⟩ : ByteArray)).bind fun t110 => (some (t110, wrap64 (bt107.2 - (wrap64 ((bt107.1.size : Int) - t109)))))) else (none)) else (none)) else ((strings_TrimRight.f bt107.1 (⟨#[32, 9]⟩ : ByteArray)).bind fun t111 => (some (t111, bt107.2)))))) = some (r1, r2) := h
  clear h
  replace H := Option.bind_eq_some_iff.mp H
  obtain ⟨⟨t107, t108⟩, A30, H⟩ := H
  replace H : ((strings_IndexByte.f t107 59).bind fun t109 => (if t109 ≥ 0 then (if 0 ≤ t109 then (if t109 ≤ (t107.size : Int) then ((strings_TrimRight.f (t107.extract 0 (t109 : Int).toNat) (⟨#[32, 9]⟩ : ByteArray)).bind fun t110 => (some (t110, wrap64 (t108 - (wrap64 ((t107.size : Int) - t109)))))) else (none)) else (none)) else ((strings_TrimRight.f t107 (⟨#[32, 9]⟩ : ByteArray)).bind fun t111 => (some (t111, t108))))) = some (r1, r2) := H
  have A3 := Aside0.mk A30
  clear A30
  replace H := Option.bind_eq_some_iff.mp H
  obtain ⟨t109, A40, H⟩ := H
  replace H : (if t109 ≥ 0 then (if 0 ≤ t109 then (if t109 ≤ (t107.size : Int) then ((strings_TrimRight.f (t107.extract 0 (t109 : Int).toNat) (⟨#[32, 9]⟩ : ByteArray)).bind fun t110 => (some (t110, wrap64 (t108 - (wrap64 ((t107.size : Int) - t109)))))) else (none)) else (none)) else ((strings_TrimRight.f t107 (⟨#[32, 9]⟩ : ByteArray)).bind fun t111 => (some (t111, t108)))) = some (r1, r2) := H
  have A4 := Aside0.mk A40
  clear A40
  by_cases c5 : t109 ≥ 0
  · rw [if_pos c5] at H
    have c5b0 : decide (0 ≤ t109) = true := decide_eq_true c5
    clear c5
    by_cases c6 : 0 ≤ t109
    · rw [if_pos c6] at H
      have c6b0 := eq_true c6
      have c6b1 : decide (0 ≤ t109) = true := decide_eq_true c6
      clear c6
      by_cases c7 : t109 ≤ (t107.size : Int)
      · rw [if_pos c7] at H
        have c7b0 := eq_true c7
        have c7b1 : decide (t109 ≤ (t107.size : Int)) = true := decide_eq_true c7
        clear c7
        replace H := Option.bind_eq_some_iff.mp H
        obtain ⟨t110, A80, H⟩ := H
        replace H : (some (t110, wrap64 (t108 - (wrap64 ((t107.size : Int) - t109))))) = some (r1, r2) := H
        have A8 := Aside0.mk A80
        clear A80
        simp only [Option.some.injEq, Prod.mk.injEq] at H
        obtain ⟨rfl, rfl⟩ := H
        go_enter Tryd.func9, Tryd.ntmps9
        go_wp2_with (first | ((with_reducible refine gate_callee (f := 7) rfl ?_); refine goesL_ (some 12) rfl rfl Tryd.func7 (by kernel_rfl) rfl #[.string a0, .int .i64 a1] rfl (by (try simp only [List.map_toArray, List.map_cons, List.map_nil]); first | done | rfl | (simp only [List.length_drop, List.length_take]; rfl)) ?_; (with_reducible refine (scan_Line.calls k a0 a1 t107 t108 _ A3.out).mono ?_); rintro e w9 ⟨rfl, hb⟩; refine ⟨_, rfl, ?_⟩; have n0_ := Aside0.mk (below_step (by repeat (first | (with_reducible first | exact HB.out | apply below_alloc | apply pw_below_drewN | apply below_drew1) | exact HB.out)) hb); clear HB; have HB := n0_; clear n0_; (try clear hb); (try clear hb2); (try clear hk); (try clear hi)) | ((with_reducible refine gate_callee (f := 23) rfl ?_); refine goesL_ (some 16) rfl rfl Tryd.func23 (by kernel_rfl) rfl #[.string t107, .int .u8 59] rfl (by (try simp only [List.map_toArray, List.map_cons, List.map_nil]); first | done | rfl | (simp only [List.length_drop, List.length_take]; rfl)) ?_; (with_reducible refine (strings_IndexByte.calls t107 59 t109 _ A4.out).mono ?_); rintro e w' ⟨rfl, ⟨nd, rfl⟩⟩; refine ⟨_, rfl, ?_⟩) | ((with_reducible refine gate_callee (f := 25) rfl ?_); refine goesL_ (some 29) rfl rfl Tryd.func25 (by kernel_rfl) rfl #[.string (t107.extract 0 (t109 : Int).toNat), .string (⟨#[32, 9]⟩ : ByteArray)] rfl (by (try simp only [List.map_toArray, List.map_cons, List.map_nil]); first | done | rfl | (simp only [List.length_drop, List.length_take]; rfl)) ?_; (with_reducible refine (strings_TrimRight.calls (t107.extract 0 (t109 : Int).toNat) (⟨#[32, 9]⟩ : ByteArray) t110 _ A8.out).mono ?_); rintro e w10 ⟨rfl, hb⟩; refine ⟨_, rfl, ?_⟩; have n0_ := Aside0.mk (below_step (by repeat (first | (with_reducible first | exact HB.out | apply below_alloc | apply pw_below_drewN | apply below_drew1) | exact HB.out)) hb); clear HB; have HB := n0_; clear n0_; (try clear hb); (try clear hb2); (try clear hk); (try clear hi)))
        go_ret2
        exact ⟨by first | rfl | (simp only [wrap_wrap]; done) | (simp only [wrap_wrap]; rfl) | (simp [errW_none, errW_some] <;> rfl) | (simp [*, errW_none, errW_some] <;> rfl), by repeat (first | (with_reducible first | exact HB.out | apply below_alloc | apply pw_below_drewN | apply below_drew1) | exact HB.out)⟩
      · rw [if_neg c7] at H
        exact absurd H (by simp)
    · rw [if_neg c6] at H
      exact absurd H (by simp)
  · rw [if_neg c5] at H
    have c5b0 : decide (0 ≤ t109) = false := decide_eq_false c5
    clear c5
    replace H := Option.bind_eq_some_iff.mp H
    obtain ⟨t111, A110, H⟩ := H
    replace H : (some (t111, t108)) = some (r1, r2) := H
    have A11 := Aside0.mk A110
    clear A110
    simp only [Option.some.injEq, Prod.mk.injEq] at H
    obtain ⟨rfl, rfl⟩ := H
    go_enter Tryd.func9, Tryd.ntmps9
    go_wp2_with (first | ((with_reducible refine gate_callee (f := 7) rfl ?_); refine goesL_ (some 12) rfl rfl Tryd.func7 (by kernel_rfl) rfl #[.string a0, .int .i64 a1] rfl (by (try simp only [List.map_toArray, List.map_cons, List.map_nil]); first | done | rfl | (simp only [List.length_drop, List.length_take]; rfl)) ?_; (with_reducible refine (scan_Line.calls k a0 a1 t107 t108 _ A3.out).mono ?_); rintro e w12 ⟨rfl, hb⟩; refine ⟨_, rfl, ?_⟩; have n0_ := Aside0.mk (below_step (by repeat (first | (with_reducible first | exact HB.out | apply below_alloc | apply pw_below_drewN | apply below_drew1) | exact HB.out)) hb); clear HB; have HB := n0_; clear n0_; (try clear hb); (try clear hb2); (try clear hk); (try clear hi)) | ((with_reducible refine gate_callee (f := 23) rfl ?_); refine goesL_ (some 16) rfl rfl Tryd.func23 (by kernel_rfl) rfl #[.string t107, .int .u8 59] rfl (by (try simp only [List.map_toArray, List.map_cons, List.map_nil]); first | done | rfl | (simp only [List.length_drop, List.length_take]; rfl)) ?_; (with_reducible refine (strings_IndexByte.calls t107 59 t109 _ A4.out).mono ?_); rintro e w' ⟨rfl, ⟨nd, rfl⟩⟩; refine ⟨_, rfl, ?_⟩) | ((with_reducible refine gate_callee (f := 25) rfl ?_); refine goesL_ (some 29) rfl rfl Tryd.func25 (by kernel_rfl) rfl #[.string t107, .string (⟨#[32, 9]⟩ : ByteArray)] rfl (by (try simp only [List.map_toArray, List.map_cons, List.map_nil]); first | done | rfl | (simp only [List.length_drop, List.length_take]; rfl)) ?_; (with_reducible refine (strings_TrimRight.calls t107 (⟨#[32, 9]⟩ : ByteArray) t111 _ A11.out).mono ?_); rintro e w13 ⟨rfl, hb⟩; refine ⟨_, rfl, ?_⟩; have n0_ := Aside0.mk (below_step (by repeat (first | (with_reducible first | exact HB.out | apply below_alloc | apply pw_below_drewN | apply below_drew1) | exact HB.out)) hb); clear HB; have HB := n0_; clear n0_; (try clear hb); (try clear hb2); (try clear hk); (try clear hi)))
    go_ret2
    exact ⟨by first | rfl | (simp only [wrap_wrap]; done) | (simp only [wrap_wrap]; rfl) | (simp [errW_none, errW_some] <;> rfl) | (simp [*, errW_none, errW_some] <;> rfl), by repeat (first | (with_reducible first | exact HB.out | apply below_alloc | apply pw_below_drewN | apply below_drew1) | exact HB.out)⟩

end Go.Proofs.YtdlbmajilmmapaaDoor.F
