-- Made by a program of this session (wip/tools/pr.py over the kit's printer). Not trusted: Lean checks it.
import Derived.Test.YtdlbmajilmmapaaDoorFx
import Derived.Test.YtdlbmajilmmapaaDoorF15
import Derived.Test.YtdlbmajilmmapaaDoorF23
namespace Go.Proofs.YtdlbmajilmmapaaDoor.F
open Go.RowKit Go.Proofs.YtdlbmajilmmapaaDoorW.PrintWords Go.Proofs.YtdlbmajilmmapaaDoorW.PrintLast Go.Proofs.YtdlbmajilmmapaaDoorW.PrintMore
attribute [local go_sem] max2_int min2_int max_two min_two max_three min_three max_four min_four
set_option linter.unusedVariables false
set_option linter.unusedSimpArgs false

/-! ### scan_Line: function 7 -/
def scan_Line.f (k : Nat) (a0 : ByteArray) (a1 : Int) : Option (ByteArray × Int) := (scan_Blanks.f k a0 a1).bind fun t103 => (if 0 ≤ t103 then (if t103 ≤ (a0.size : Int) then ((strings_IndexByte.f (a0.extract (t103 : Int).toNat a0.size) 10).bind fun t104 => (if t104 ≥ 0 then (if t103 ≤ (wrap64 (t103 + t104)) then (if (wrap64 (t103 + t104)) ≤ (a0.size : Int) then (some (a0.extract (t103 : Int).toNat ((wrap64 (t103 + t104)) : Int).toNat, wrap64 (t103 + t104))) else (none)) else (none)) else (if (a0.size : Int) ≤ (a0.size : Int) then (some (a0.extract (t103 : Int).toNat ((a0.size : Int) : Int).toNat, (a0.size : Int))) else (none)))) else (none)) else (none))
theorem scan_Line.mono : ∀ a0 a1 k, LeO (scan_Line.f k a0 a1) (scan_Line.f (k + 1) a0 a1) := by
  intro a0 a1 k
  unfold scan_Line.f
  repeat' first
      | (with_reducible exact scan_Blanks.mono _ _ _)
      | (with_reducible exact LeO.refl _)
      | (with_reducible exact LeO.none _)
      | (with_reducible refine LeO.ite ?_ ?_)
      | (with_reducible refine LeO.bind ?_ (fun _ => ?_))
      | exact scan_Blanks.mono _ _ _
      | exact LeO.none _
      | refine LeO.ite ?_ ?_
      | refine LeO.bind ?_ (fun _ => ?_)
set_option maxHeartbeats 8000000 in
set_option maxRecDepth 100000 in
theorem scan_Line.calls (k : Nat) (a0 : ByteArray) (a1 : Int) (r1 : ByteArray) (r2 : Int) (w : World) (h : scan_Line.f k a0 a1 = some (r1, r2)) :
    Calls Tryd.prog 7 #[.string a0, .int .i64 a1] w fun e w' => e = .returned (.tuple #[.string r1, .int .i64 r2]) ∧ Below w.heap.size w w' := by
  have HB := Aside0.mk (Below.refl w.heap.size w)
  have H : ((scan_Blanks.f k a0 a1).bind fun t103 => (if 0 ≤ t103 then (if t103 ≤ (a0.size : Int) then ((strings_IndexByte.f (a0.extract (t103 : Int).toNat a0.size) 10).bind fun t104 => (if t104 ≥ 0 then (if t103 ≤ (wrap64 (t103 + t104)) then (if (wrap64 (t103 + t104)) ≤ (a0.size : Int) then (some (a0.extract (t103 : Int).toNat ((wrap64 (t103 + t104)) : Int).toNat, wrap64 (t103 + t104))) else (none)) else (none)) else (if (a0.size : Int) ≤ (a0.size : Int) then (some (a0.extract (t103 : Int).toNat ((a0.size : Int) : Int).toNat, (a0.size : Int))) else (none)))) else (none)) else (none))) = some (r1, r2) := h
  clear h
  replace H := Option.bind_eq_some_iff.mp H
  obtain ⟨t103, A30, H⟩ := H
  replace H : (if 0 ≤ t103 then (if t103 ≤ (a0.size : Int) then ((strings_IndexByte.f (a0.extract (t103 : Int).toNat a0.size) 10).bind fun t104 => (if t104 ≥ 0 then (if t103 ≤ (wrap64 (t103 + t104)) then (if (wrap64 (t103 + t104)) ≤ (a0.size : Int) then (some (a0.extract (t103 : Int).toNat ((wrap64 (t103 + t104)) : Int).toNat, wrap64 (t103 + t104))) else (none)) else (none)) else (if (a0.size : Int) ≤ (a0.size : Int) then (some (a0.extract (t103 : Int).toNat ((a0.size : Int) : Int).toNat, (a0.size : Int))) else (none)))) else (none)) else (none)) = some (r1, r2) := H
  have A3 := Aside0.mk A30
  clear A30
  by_cases c4 : 0 ≤ t103
  · rw [if_pos c4] at H
    have c4b0 := eq_true c4
    have c4b1 : decide (0 ≤ t103) = true := decide_eq_true c4
    clear c4
    by_cases c5 : t103 ≤ (a0.size : Int)
    · rw [if_pos c5] at H
      have c5b0 := eq_true c5
      have c5b1 : decide (t103 ≤ (a0.size : Int)) = true := decide_eq_true c5
      clear c5
      replace H := Option.bind_eq_some_iff.mp H
      obtain ⟨t104, A60, H⟩ := H
      replace H : (if t104 ≥ 0 then (if t103 ≤ (wrap64 (t103 + t104)) then (if (wrap64 (t103 + t104)) ≤ (a0.size : Int) then (some (a0.extract (t103 : Int).toNat ((wrap64 (t103 + t104)) : Int).toNat, wrap64 (t103 + t104))) else (none)) else (none)) else (if (a0.size : Int) ≤ (a0.size : Int) then (some (a0.extract (t103 : Int).toNat ((a0.size : Int) : Int).toNat, (a0.size : Int))) else (none))) = some (r1, r2) := H
      have A6 := Aside0.mk A60
      clear A60
      by_cases c7 : t104 ≥ 0
      · rw [if_pos c7] at H
        have c7b0 : decide (0 ≤ t104) = true := decide_eq_true c7
        clear c7
        have c8b0 := eq_true (of_decide_eq_true (by first | (with_reducible assumption) | assumption) : 0 ≤ t103)
        by_cases c9 : t103 ≤ (wrap64 (t103 + t104))
        · rw [if_pos c9] at H
          have c9b0 := eq_true c9
          have c9b1 : decide (t103 ≤ (wrap64 (t103 + t104))) = true := decide_eq_true c9
          by_cases c10 : (wrap64 (t103 + t104)) ≤ (a0.size : Int)
          · rw [if_pos c10] at H
            have c10b0 := eq_true c10
            have c10b1 : decide ((wrap64 (t103 + t104)) ≤ (a0.size : Int)) = true := decide_eq_true c10
            simp only [Option.some.injEq, Prod.mk.injEq] at H
            obtain ⟨rfl, rfl⟩ := H
            go_enter Tryd.func7, Tryd.ntmps7
            go_wp2_with (first | ((with_reducible refine gate_callee (f := 15) rfl ?_); refine goesL_ (some 10) rfl rfl Tryd.func15 (by kernel_rfl) rfl #[.string a0, .int .i64 a1] rfl (by (try simp only [List.map_toArray, List.map_cons, List.map_nil]); first | done | rfl | (simp only [List.length_drop, List.length_take]; rfl)) ?_; (with_reducible refine (scan_Blanks.calls k a0 a1 t103 _ A3.out).mono ?_); rintro e w11 ⟨rfl, hb⟩; refine ⟨_, rfl, ?_⟩; have n0_ := Aside0.mk (below_step (by repeat (first | (with_reducible first | exact HB.out | apply below_alloc | apply pw_below_drewN | apply below_drew1) | exact HB.out)) hb); clear HB; have HB := n0_; clear n0_; (try clear hb); (try clear hb2); (try clear hk); (try clear hi)) | ((with_reducible refine gate_callee (f := 23) rfl ?_); refine goesL_ (some 16) rfl rfl Tryd.func23 (by kernel_rfl) rfl #[.string (a0.extract (t103 : Int).toNat a0.size), .int .u8 10] rfl (by (try simp only [List.map_toArray, List.map_cons, List.map_nil]); first | done | rfl | (simp only [List.length_drop, List.length_take]; rfl)) ?_; (with_reducible refine (strings_IndexByte.calls (a0.extract (t103 : Int).toNat a0.size) 10 t104 _ A6.out).mono ?_); rintro e w' ⟨rfl, ⟨nd, rfl⟩⟩; refine ⟨_, rfl, ?_⟩))
            go_ret2
            exact ⟨by first | rfl | (simp only [wrap_wrap]; done) | (simp only [wrap_wrap]; rfl) | (simp [errW_none, errW_some] <;> rfl) | (simp [*, errW_none, errW_some] <;> rfl), by repeat (first | (with_reducible first | exact HB.out | apply below_alloc | apply pw_below_drewN | apply below_drew1) | exact HB.out)⟩
          · rw [if_neg c10] at H
            exact absurd H (by simp)
        · rw [if_neg c9] at H
          exact absurd H (by simp)
      · rw [if_neg c7] at H
        have c7b0 : decide (0 ≤ t104) = false := decide_eq_false c7
        clear c7
        have c12b0 := eq_true (of_decide_eq_true (by first | (with_reducible assumption) | assumption) : 0 ≤ t103)
        have c13b0 := eq_true (of_decide_eq_true (by first | (with_reducible assumption) | assumption) : t103 ≤ (a0.size : Int))
        by_cases c14 : (a0.size : Int) ≤ (a0.size : Int)
        · rw [if_pos c14] at H
          have c14b0 := eq_true c14
          have c14b1 : decide ((a0.size : Int) ≤ (a0.size : Int)) = true := decide_eq_true c14
          clear c14
          simp only [Option.some.injEq, Prod.mk.injEq] at H
          obtain ⟨rfl, rfl⟩ := H
          go_enter Tryd.func7, Tryd.ntmps7
          go_wp2_with (first | ((with_reducible refine gate_callee (f := 15) rfl ?_); refine goesL_ (some 10) rfl rfl Tryd.func15 (by kernel_rfl) rfl #[.string a0, .int .i64 a1] rfl (by (try simp only [List.map_toArray, List.map_cons, List.map_nil]); first | done | rfl | (simp only [List.length_drop, List.length_take]; rfl)) ?_; (with_reducible refine (scan_Blanks.calls k a0 a1 t103 _ A3.out).mono ?_); rintro e w15 ⟨rfl, hb⟩; refine ⟨_, rfl, ?_⟩; have n0_ := Aside0.mk (below_step (by repeat (first | (with_reducible first | exact HB.out | apply below_alloc | apply pw_below_drewN | apply below_drew1) | exact HB.out)) hb); clear HB; have HB := n0_; clear n0_; (try clear hb); (try clear hb2); (try clear hk); (try clear hi)) | ((with_reducible refine gate_callee (f := 23) rfl ?_); refine goesL_ (some 16) rfl rfl Tryd.func23 (by kernel_rfl) rfl #[.string (a0.extract (t103 : Int).toNat a0.size), .int .u8 10] rfl (by (try simp only [List.map_toArray, List.map_cons, List.map_nil]); first | done | rfl | (simp only [List.length_drop, List.length_take]; rfl)) ?_; (with_reducible refine (strings_IndexByte.calls (a0.extract (t103 : Int).toNat a0.size) 10 t104 _ A6.out).mono ?_); rintro e w' ⟨rfl, ⟨nd, rfl⟩⟩; refine ⟨_, rfl, ?_⟩))
          go_ret2
          exact ⟨by first | rfl | (simp only [wrap_wrap]; done) | (simp only [wrap_wrap]; rfl) | (simp [errW_none, errW_some] <;> rfl) | (simp [*, errW_none, errW_some] <;> rfl), by repeat (first | (with_reducible first | exact HB.out | apply below_alloc | apply pw_below_drewN | apply below_drew1) | exact HB.out)⟩
        · rw [if_neg c14] at H
          exact absurd H (by simp)
    · rw [if_neg c5] at H
      exact absurd H (by simp)
  · rw [if_neg c4] at H
    exact absurd H (by simp)

end Go.Proofs.YtdlbmajilmmapaaDoor.F
