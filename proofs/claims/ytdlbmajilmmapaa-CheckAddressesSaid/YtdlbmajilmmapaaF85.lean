-- Made by a program of this session (wip/tools/pr.py over the kit's printer). Not trusted: Lean checks it.
import Derived.Test.YtdlbmajilmmapaaFx
namespace Go.Proofs.Ytdlbmajilmmapaa.F
open Go.RowKit Go.Proofs.YtdlbmajilmmapaaW.PrintWords Go.Proofs.YtdlbmajilmmapaaW.PrintLast Go.Proofs.YtdlbmajilmmapaaW.PrintMore
attribute [local go_sem] max2_int min2_int max_two min_two max_three min_three max_four min_four
set_option linter.unusedVariables false
set_option linter.unusedSimpArgs false

/-! ### check_counts: function 85 -/
mutual
def check_counts.j0 : Nat → Int → Bool → Option (Int)
  | 0, _, _ => none
  | k + 1, x3, x4 => if x4 = true then (some 0) else (if x3 = 97 then (check_counts.j1 k x3 (x3 == 97)) else (if x3 = 105 then (check_counts.j1 k x3 (x3 == 105)) else (if x3 = 114 then (check_counts.j1 k x3 (x3 == 114)) else (if x3 = 113 then (check_counts.j1 k x3 (x3 == 113)) else (check_counts.j1 k x3 (x3 == 61))))))
def check_counts.j1 : Nat → Int → Bool → Option (Int)
  | 0, _, _ => none
  | k + 1, x3, x7 => if x7 = true then (some 1) else (if x3 = 123 then (some 2) else (if x3 = 98 then (some 2) else (if x3 = 99 then (some 2) else (if x3 = 100 then (some 2) else (if x3 = 68 then (some 2) else (if x3 = 103 then (some 2) else (if x3 = 71 then (some 2) else (if x3 = 104 then (some 2) else (if x3 = 72 then (some 2) else (if x3 = 108 then (some 2) else (if x3 = 110 then (some 2) else (if x3 = 78 then (some 2) else (if x3 = 112 then (some 2) else (if x3 = 80 then (some 2) else (if x3 = 115 then (some 2) else (if x3 = 116 then (some 2) else (if x3 = 119 then (some 2) else (if x3 = 120 then (some 2) else (if x3 = 121 then (some 2) else (some (-1)))))))))))))))))))))
end
def check_counts.f (k : Nat) (a0 : Int) : Option (Int) := if a0 = 58 then (check_counts.j0 k a0 (a0 == 58)) else (check_counts.j0 k a0 (a0 == 125))
theorem check_counts.mono_l : ∀ k, (∀ y0 y1, LeO (check_counts.j0 k y0 y1) (check_counts.j0 (k + 1) y0 y1)) ∧ (∀ y0 y1, LeO (check_counts.j1 k y0 y1) (check_counts.j1 (k + 1) y0 y1))
  | 0 => ⟨fun _ _ r h => by simp [check_counts.j0] at h, fun _ _ r h => by simp [check_counts.j1] at h⟩
  | k + 1 => by
    obtain ⟨ih0, ih1⟩ := check_counts.mono_l k
    refine ⟨?_, ?_⟩
    · intro y0 y1
      unfold check_counts.j0
      repeat' first
      | (with_reducible exact ih0 _ _)
      | (with_reducible exact ih1 _ _)
      | (with_reducible exact LeO.refl _)
      | (with_reducible exact LeO.none _)
      | (with_reducible refine LeO.ite ?_ ?_)
      | (with_reducible refine LeO.bind ?_ (fun _ => ?_))
      | exact ih0 _ _
      | exact ih1 _ _
      | exact LeO.none _
      | refine LeO.ite ?_ ?_
      | refine LeO.bind ?_ (fun _ => ?_)
    · intro y0 y1
      unfold check_counts.j1
      repeat' first
      | (with_reducible exact ih0 _ _)
      | (with_reducible exact ih1 _ _)
      | (with_reducible exact LeO.refl _)
      | (with_reducible exact LeO.none _)
      | (with_reducible refine LeO.ite ?_ ?_)
      | (with_reducible refine LeO.bind ?_ (fun _ => ?_))
      | exact ih0 _ _
      | exact ih1 _ _
      | exact LeO.none _
      | refine LeO.ite ?_ ?_
      | refine LeO.bind ?_ (fun _ => ?_)
theorem check_counts.mono : ∀ a0 k, LeO (check_counts.f k a0) (check_counts.f (k + 1) a0) := by
  intro a0 k
  obtain ⟨ih0, ih1⟩ := check_counts.mono_l k
  unfold check_counts.f
  repeat' first
      | (with_reducible exact ih0 _ _)
      | (with_reducible exact ih1 _ _)
      | (with_reducible exact LeO.refl _)
      | (with_reducible exact LeO.none _)
      | (with_reducible refine LeO.ite ?_ ?_)
      | (with_reducible refine LeO.bind ?_ (fun _ => ?_))
      | exact ih0 _ _
      | exact ih1 _ _
      | exact LeO.none _
      | refine LeO.ite ?_ ?_
      | refine LeO.bind ?_ (fun _ => ?_)
set_option maxHeartbeats 8000000 in
set_option maxRecDepth 100000 in
theorem check_counts.calls (k : Nat) (a0 : Int) (r : Int) (w : World) (h : check_counts.f k a0 = some r) :
    Calls Try.prog 85 #[.int .u8 a0] w fun e w' => e = .returned (.int .i64 r) ∧ Drawn0 w w' := by
  have H : (if a0 = 58 then (check_counts.j0 k a0 (a0 == 58)) else (check_counts.j0 k a0 (a0 == 125))) = some r := h
  clear h
  have HC2 := Aside0.mk H
  clear H
  go_enter Try.func85, Try.ntmps85
  go_upto_if 4 with (fail)
  go_cut [4] (fun v4 wc => ∃ (kq : Nat) (x4_1 : Bool), v4 = .bool x4_1 ∧ Aside0 (check_counts.j0 kq a0 x4_1 = some r) ∧ Aside0 (kq ≤ k) ∧ Drawn0 w wc)
  case first =>
    have H := HC2.out
    clear HC2
    by_cases c3 : a0 = 58
    · rw [if_pos c3] at H
      have c3b0 : (a0 == 58) = true := beq_iff_eq.mpr c3
      have c3b1 : (a0 != 58) = false := bne_eq_false_iff_eq.mpr c3
      clear c3
      (first | rw [c3b0] | (simp only [i64_w, i32_w]; rw [c3b0]) | skip)
      have H' := Aside0.mk H
      clear H
      go_wp2
      go_meet
      case rel => exact ⟨_, ((a0 == 58)), (by first | rfl | (simp; done) | (simp [*]; done)), H', ⟨by first | omega | exact Nat.le_refl _⟩, by repeat (first | exact Drawn0.refl _ | apply Drawn0.step)⟩
    · rw [if_neg c3] at H
      have c3b0 : (a0 == 58) = false := beq_eq_false_iff_ne.mpr c3
      have c3b1 : (a0 != 58) = true := bne_iff_ne.mpr c3
      (first | rw [c3b0] | (simp only [i64_w, i32_w]; rw [c3b0]) | skip)
      have H' := Aside0.mk H
      clear H
      go_wp2
      go_meet
      case rel => exact ⟨_, ((a0 == 125)), (by first | rfl | (simp; done) | (simp [*]; done)), H', ⟨by first | omega | exact Nat.le_refl _⟩, by repeat (first | exact Drawn0.refl _ | apply Drawn0.step)⟩
  case rest =>
    clear HC2
    try clear p2
    try clear c3
    try clear c3b0
    try clear c3b1
    obtain ⟨kq, x4_1, rfl, HA, HJ1, ⟨mc1, rfl⟩⟩ := hcut
    cases kq with
    | zero => exact absurd HA.out (by simp [check_counts.j0])
    | succ kj1 =>
      have H := HA.out
      clear HA
      simp only [check_counts.j0] at H
      by_cases c4 : x4_1 = true
      · subst c4
        have H1 : (some 0) = some r := by rw [if_pos rfl] at H; exact H
        clear H
        have H := H1
        clear H1
        obtain rfl := Option.some.inj H
        go_wp2
        go_ret
        exact ⟨by first | rfl | (simp only [wrap_wrap]; done) | (simp only [wrap_wrap]; rfl) | (simp; done) | (simp [*]; done), by repeat (first | exact Drawn0.refl _ | apply Drawn0.step)⟩
      · replace c4 := Bool.eq_false_iff.mpr c4
        subst c4
        have H1 : (if a0 = 97 then (check_counts.j1 kj1 a0 (a0 == 97)) else (if a0 = 105 then (check_counts.j1 kj1 a0 (a0 == 105)) else (if a0 = 114 then (check_counts.j1 kj1 a0 (a0 == 114)) else (if a0 = 113 then (check_counts.j1 kj1 a0 (a0 == 113)) else (check_counts.j1 kj1 a0 (a0 == 61)))))) = some r := by rw [if_neg (show ¬ (false = true) by decide)] at H; exact H
        clear H
        have H := H1
        clear H1
        have HC5 := Aside0.mk H
        clear H
        go_upto_if 7 with (fail)
        go_cut [7] (fun v7 wc => ∃ (kq : Nat) (x7_4 : Bool), v7 = .bool x7_4 ∧ Aside0 (check_counts.j1 kq a0 x7_4 = some r) ∧ Aside0 (kq ≤ kj1) ∧ Drawn0 w wc)
        case first =>
          have H := HC5.out
          clear HC5
          by_cases c6 : a0 = 97
          · rw [if_pos c6] at H
            have c6b0 : (a0 == 97) = true := beq_iff_eq.mpr c6
            have c6b1 : (a0 != 97) = false := bne_eq_false_iff_eq.mpr c6
            clear c6
            (first | rw [c6b0] | (simp only [i64_w, i32_w]; rw [c6b0]) | skip)
            have H' := Aside0.mk H
            clear H
            go_wp2
            go_meet
            case rel => exact ⟨_, ((a0 == 97)), (by first | rfl | (simp; done) | (simp [*]; done)), H', ⟨by have := HJ1.out; first | omega | exact Nat.le_refl _⟩, by repeat (first | exact Drawn0.refl _ | apply Drawn0.step)⟩
          · rw [if_neg c6] at H
            have c6b0 : (a0 == 97) = false := beq_eq_false_iff_ne.mpr c6
            have c6b1 : (a0 != 97) = true := bne_iff_ne.mpr c6
            (first | rw [c6b0] | (simp only [i64_w, i32_w]; rw [c6b0]) | skip)
            by_cases c7 : a0 = 105
            · rw [if_pos c7] at H
              have c7b0 : (a0 == 105) = true := beq_iff_eq.mpr c7
              have c7b1 : (a0 != 105) = false := bne_eq_false_iff_eq.mpr c7
              clear c7
              have H' := Aside0.mk H
              clear H
              go_wp2
              go_meet
              case rel => exact ⟨_, ((a0 == 105)), (by first | rfl | (simp; done) | (simp [*]; done)), H', ⟨by have := HJ1.out; first | omega | exact Nat.le_refl _⟩, by repeat (first | exact Drawn0.refl _ | apply Drawn0.step)⟩
            · rw [if_neg c7] at H
              have c7b0 : (a0 == 105) = false := beq_eq_false_iff_ne.mpr c7
              have c7b1 : (a0 != 105) = true := bne_iff_ne.mpr c7
              by_cases c8 : a0 = 114
              · rw [if_pos c8] at H
                have c8b0 : (a0 == 114) = true := beq_iff_eq.mpr c8
                have c8b1 : (a0 != 114) = false := bne_eq_false_iff_eq.mpr c8
                clear c8
                have H' := Aside0.mk H
                clear H
                go_wp2
                go_meet
                case rel => exact ⟨_, ((a0 == 114)), (by first | rfl | (simp; done) | (simp [*]; done)), H', ⟨by have := HJ1.out; first | omega | exact Nat.le_refl _⟩, by repeat (first | exact Drawn0.refl _ | apply Drawn0.step)⟩
              · rw [if_neg c8] at H
                have c8b0 : (a0 == 114) = false := beq_eq_false_iff_ne.mpr c8
                have c8b1 : (a0 != 114) = true := bne_iff_ne.mpr c8
                by_cases c9 : a0 = 113
                · rw [if_pos c9] at H
                  have c9b0 : (a0 == 113) = true := beq_iff_eq.mpr c9
                  have c9b1 : (a0 != 113) = false := bne_eq_false_iff_eq.mpr c9
                  clear c9
                  have H' := Aside0.mk H
                  clear H
                  go_wp2
                  go_meet
                  case rel => exact ⟨_, ((a0 == 113)), (by first | rfl | (simp; done) | (simp [*]; done)), H', ⟨by have := HJ1.out; first | omega | exact Nat.le_refl _⟩, by repeat (first | exact Drawn0.refl _ | apply Drawn0.step)⟩
                · rw [if_neg c9] at H
                  have c9b0 : (a0 == 113) = false := beq_eq_false_iff_ne.mpr c9
                  have c9b1 : (a0 != 113) = true := bne_iff_ne.mpr c9
                  have H' := Aside0.mk H
                  clear H
                  go_wp2
                  go_meet
                  case rel => exact ⟨_, ((a0 == 61)), (by first | rfl | (simp; done) | (simp [*]; done)), H', ⟨by have := HJ1.out; first | omega | exact Nat.le_refl _⟩, by repeat (first | exact Drawn0.refl _ | apply Drawn0.step)⟩
        case rest =>
          clear HC5
          try clear c1
          try clear p2
          try clear c3
          try clear c3b0
          try clear c3b1
          try clear c4
          try clear c6
          try clear c6b0
          try clear c6b1
          try clear c7
          try clear c7b0
          try clear c7b1
          try clear c8
          try clear c8b0
          try clear c8b1
          try clear c9
          try clear c9b0
          try clear c9b1
          try clear p2
          obtain ⟨kq, x7_4, rfl, HA, HJ4, ⟨mc4, rfl⟩⟩ := hcut
          cases kq with
          | zero => exact absurd HA.out (by simp [check_counts.j1])
          | succ kj4 =>
            have H := HA.out
            clear HA
            simp only [check_counts.j1] at H
            by_cases c10 : x7_4 = true
            · subst c10
              have H1 : (some 1) = some r := by rw [if_pos rfl] at H; exact H
              clear H
              have H := H1
              clear H1
              obtain rfl := Option.some.inj H
              go_wp2
              go_ret
              exact ⟨by first | rfl | (simp only [wrap_wrap]; done) | (simp only [wrap_wrap]; rfl) | (simp; done) | (simp [*]; done), by repeat (first | exact Drawn0.refl _ | apply Drawn0.step)⟩
            · replace c10 := Bool.eq_false_iff.mpr c10
              subst c10
              have H1 : (if a0 = 123 then (some 2) else (if a0 = 98 then (some 2) else (if a0 = 99 then (some 2) else (if a0 = 100 then (some 2) else (if a0 = 68 then (some 2) else (if a0 = 103 then (some 2) else (if a0 = 71 then (some 2) else (if a0 = 104 then (some 2) else (if a0 = 72 then (some 2) else (if a0 = 108 then (some 2) else (if a0 = 110 then (some 2) else (if a0 = 78 then (some 2) else (if a0 = 112 then (some 2) else (if a0 = 80 then (some 2) else (if a0 = 115 then (some 2) else (if a0 = 116 then (some 2) else (if a0 = 119 then (some 2) else (if a0 = 120 then (some 2) else (if a0 = 121 then (some 2) else (some (-1))))))))))))))))))))) = some r := by rw [if_neg (show ¬ (false = true) by decide)] at H; exact H
              clear H
              have H := H1
              clear H1
              by_cases c11 : a0 = 123
              · rw [if_pos c11] at H
                have c11b0 : (a0 == 123) = true := beq_iff_eq.mpr c11
                have c11b1 : (a0 != 123) = false := bne_eq_false_iff_eq.mpr c11
                clear c11
                obtain rfl := Option.some.inj H
                go_wp2
                go_ret
                exact ⟨by first | rfl | (simp only [wrap_wrap]; done) | (simp only [wrap_wrap]; rfl) | (simp; done) | (simp [*]; done), by repeat (first | exact Drawn0.refl _ | apply Drawn0.step)⟩
              · rw [if_neg c11] at H
                have c11b0 : (a0 == 123) = false := beq_eq_false_iff_ne.mpr c11
                have c11b1 : (a0 != 123) = true := bne_iff_ne.mpr c11
                by_cases c12 : a0 = 98
                · rw [if_pos c12] at H
                  have c12b0 : (a0 == 98) = true := beq_iff_eq.mpr c12
                  have c12b1 : (a0 != 98) = false := bne_eq_false_iff_eq.mpr c12
                  clear c12
                  obtain rfl := Option.some.inj H
                  go_wp2
                  go_ret
                  exact ⟨by first | rfl | (simp only [wrap_wrap]; done) | (simp only [wrap_wrap]; rfl) | (simp; done) | (simp [*]; done), by repeat (first | exact Drawn0.refl _ | apply Drawn0.step)⟩
                · rw [if_neg c12] at H
                  have c12b0 : (a0 == 98) = false := beq_eq_false_iff_ne.mpr c12
                  have c12b1 : (a0 != 98) = true := bne_iff_ne.mpr c12
                  by_cases c13 : a0 = 99
                  · rw [if_pos c13] at H
                    have c13b0 : (a0 == 99) = true := beq_iff_eq.mpr c13
                    have c13b1 : (a0 != 99) = false := bne_eq_false_iff_eq.mpr c13
                    clear c13
                    obtain rfl := Option.some.inj H
                    go_wp2
                    go_ret
                    exact ⟨by first | rfl | (simp only [wrap_wrap]; done) | (simp only [wrap_wrap]; rfl) | (simp; done) | (simp [*]; done), by repeat (first | exact Drawn0.refl _ | apply Drawn0.step)⟩
                  · rw [if_neg c13] at H
                    have c13b0 : (a0 == 99) = false := beq_eq_false_iff_ne.mpr c13
                    have c13b1 : (a0 != 99) = true := bne_iff_ne.mpr c13
                    by_cases c14 : a0 = 100
                    · rw [if_pos c14] at H
                      have c14b0 : (a0 == 100) = true := beq_iff_eq.mpr c14
                      have c14b1 : (a0 != 100) = false := bne_eq_false_iff_eq.mpr c14
                      clear c14
                      obtain rfl := Option.some.inj H
                      go_wp2
                      go_ret
                      exact ⟨by first | rfl | (simp only [wrap_wrap]; done) | (simp only [wrap_wrap]; rfl) | (simp; done) | (simp [*]; done), by repeat (first | exact Drawn0.refl _ | apply Drawn0.step)⟩
                    · rw [if_neg c14] at H
                      have c14b0 : (a0 == 100) = false := beq_eq_false_iff_ne.mpr c14
                      have c14b1 : (a0 != 100) = true := bne_iff_ne.mpr c14
                      by_cases c15 : a0 = 68
                      · rw [if_pos c15] at H
                        have c15b0 : (a0 == 68) = true := beq_iff_eq.mpr c15
                        have c15b1 : (a0 != 68) = false := bne_eq_false_iff_eq.mpr c15
                        clear c15
                        obtain rfl := Option.some.inj H
                        go_wp2
                        go_ret
                        exact ⟨by first | rfl | (simp only [wrap_wrap]; done) | (simp only [wrap_wrap]; rfl) | (simp; done) | (simp [*]; done), by repeat (first | exact Drawn0.refl _ | apply Drawn0.step)⟩
                      · rw [if_neg c15] at H
                        have c15b0 : (a0 == 68) = false := beq_eq_false_iff_ne.mpr c15
                        have c15b1 : (a0 != 68) = true := bne_iff_ne.mpr c15
                        by_cases c16 : a0 = 103
                        · rw [if_pos c16] at H
                          have c16b0 : (a0 == 103) = true := beq_iff_eq.mpr c16
                          have c16b1 : (a0 != 103) = false := bne_eq_false_iff_eq.mpr c16
                          clear c16
                          obtain rfl := Option.some.inj H
                          go_wp2
                          go_ret
                          exact ⟨by first | rfl | (simp only [wrap_wrap]; done) | (simp only [wrap_wrap]; rfl) | (simp; done) | (simp [*]; done), by repeat (first | exact Drawn0.refl _ | apply Drawn0.step)⟩
                        · rw [if_neg c16] at H
                          have c16b0 : (a0 == 103) = false := beq_eq_false_iff_ne.mpr c16
                          have c16b1 : (a0 != 103) = true := bne_iff_ne.mpr c16
                          by_cases c17 : a0 = 71
                          · rw [if_pos c17] at H
                            have c17b0 : (a0 == 71) = true := beq_iff_eq.mpr c17
                            have c17b1 : (a0 != 71) = false := bne_eq_false_iff_eq.mpr c17
                            clear c17
                            obtain rfl := Option.some.inj H
                            go_wp2
                            go_ret
                            exact ⟨by first | rfl | (simp only [wrap_wrap]; done) | (simp only [wrap_wrap]; rfl) | (simp; done) | (simp [*]; done), by repeat (first | exact Drawn0.refl _ | apply Drawn0.step)⟩
                          · rw [if_neg c17] at H
                            have c17b0 : (a0 == 71) = false := beq_eq_false_iff_ne.mpr c17
                            have c17b1 : (a0 != 71) = true := bne_iff_ne.mpr c17
                            by_cases c18 : a0 = 104
                            · rw [if_pos c18] at H
                              have c18b0 : (a0 == 104) = true := beq_iff_eq.mpr c18
                              have c18b1 : (a0 != 104) = false := bne_eq_false_iff_eq.mpr c18
                              clear c18
                              obtain rfl := Option.some.inj H
                              go_wp2
                              go_ret
                              exact ⟨by first | rfl | (simp only [wrap_wrap]; done) | (simp only [wrap_wrap]; rfl) | (simp; done) | (simp [*]; done), by repeat (first | exact Drawn0.refl _ | apply Drawn0.step)⟩
                            · rw [if_neg c18] at H
                              have c18b0 : (a0 == 104) = false := beq_eq_false_iff_ne.mpr c18
                              have c18b1 : (a0 != 104) = true := bne_iff_ne.mpr c18
                              by_cases c19 : a0 = 72
                              · rw [if_pos c19] at H
                                have c19b0 : (a0 == 72) = true := beq_iff_eq.mpr c19
                                have c19b1 : (a0 != 72) = false := bne_eq_false_iff_eq.mpr c19
                                clear c19
                                obtain rfl := Option.some.inj H
                                go_wp2
                                go_ret
                                exact ⟨by first | rfl | (simp only [wrap_wrap]; done) | (simp only [wrap_wrap]; rfl) | (simp; done) | (simp [*]; done), by repeat (first | exact Drawn0.refl _ | apply Drawn0.step)⟩
                              · rw [if_neg c19] at H
                                have c19b0 : (a0 == 72) = false := beq_eq_false_iff_ne.mpr c19
                                have c19b1 : (a0 != 72) = true := bne_iff_ne.mpr c19
                                by_cases c20 : a0 = 108
                                · rw [if_pos c20] at H
                                  have c20b0 : (a0 == 108) = true := beq_iff_eq.mpr c20
                                  have c20b1 : (a0 != 108) = false := bne_eq_false_iff_eq.mpr c20
                                  clear c20
                                  obtain rfl := Option.some.inj H
                                  go_wp2
                                  go_ret
                                  exact ⟨by first | rfl | (simp only [wrap_wrap]; done) | (simp only [wrap_wrap]; rfl) | (simp; done) | (simp [*]; done), by repeat (first | exact Drawn0.refl _ | apply Drawn0.step)⟩
                                · rw [if_neg c20] at H
                                  have c20b0 : (a0 == 108) = false := beq_eq_false_iff_ne.mpr c20
                                  have c20b1 : (a0 != 108) = true := bne_iff_ne.mpr c20
                                  by_cases c21 : a0 = 110
                                  · rw [if_pos c21] at H
                                    have c21b0 : (a0 == 110) = true := beq_iff_eq.mpr c21
                                    have c21b1 : (a0 != 110) = false := bne_eq_false_iff_eq.mpr c21
                                    clear c21
                                    obtain rfl := Option.some.inj H
                                    go_wp2
                                    go_ret
                                    exact ⟨by first | rfl | (simp only [wrap_wrap]; done) | (simp only [wrap_wrap]; rfl) | (simp; done) | (simp [*]; done), by repeat (first | exact Drawn0.refl _ | apply Drawn0.step)⟩
                                  · rw [if_neg c21] at H
                                    have c21b0 : (a0 == 110) = false := beq_eq_false_iff_ne.mpr c21
                                    have c21b1 : (a0 != 110) = true := bne_iff_ne.mpr c21
                                    by_cases c22 : a0 = 78
                                    · rw [if_pos c22] at H
                                      have c22b0 : (a0 == 78) = true := beq_iff_eq.mpr c22
                                      have c22b1 : (a0 != 78) = false := bne_eq_false_iff_eq.mpr c22
                                      clear c22
                                      obtain rfl := Option.some.inj H
                                      go_wp2
                                      go_ret
                                      exact ⟨by first | rfl | (simp only [wrap_wrap]; done) | (simp only [wrap_wrap]; rfl) | (simp; done) | (simp [*]; done), by repeat (first | exact Drawn0.refl _ | apply Drawn0.step)⟩
                                    · rw [if_neg c22] at H
                                      have c22b0 : (a0 == 78) = false := beq_eq_false_iff_ne.mpr c22
                                      have c22b1 : (a0 != 78) = true := bne_iff_ne.mpr c22
                                      by_cases c23 : a0 = 112
                                      · rw [if_pos c23] at H
                                        have c23b0 : (a0 == 112) = true := beq_iff_eq.mpr c23
                                        have c23b1 : (a0 != 112) = false := bne_eq_false_iff_eq.mpr c23
                                        clear c23
                                        obtain rfl := Option.some.inj H
                                        go_wp2
                                        go_ret
                                        exact ⟨by first | rfl | (simp only [wrap_wrap]; done) | (simp only [wrap_wrap]; rfl) | (simp; done) | (simp [*]; done), by repeat (first | exact Drawn0.refl _ | apply Drawn0.step)⟩
                                      · rw [if_neg c23] at H
                                        have c23b0 : (a0 == 112) = false := beq_eq_false_iff_ne.mpr c23
                                        have c23b1 : (a0 != 112) = true := bne_iff_ne.mpr c23
                                        by_cases c24 : a0 = 80
                                        · rw [if_pos c24] at H
                                          have c24b0 : (a0 == 80) = true := beq_iff_eq.mpr c24
                                          have c24b1 : (a0 != 80) = false := bne_eq_false_iff_eq.mpr c24
                                          clear c24
                                          obtain rfl := Option.some.inj H
                                          go_wp2
                                          go_ret
                                          exact ⟨by first | rfl | (simp only [wrap_wrap]; done) | (simp only [wrap_wrap]; rfl) | (simp; done) | (simp [*]; done), by repeat (first | exact Drawn0.refl _ | apply Drawn0.step)⟩
                                        · rw [if_neg c24] at H
                                          have c24b0 : (a0 == 80) = false := beq_eq_false_iff_ne.mpr c24
                                          have c24b1 : (a0 != 80) = true := bne_iff_ne.mpr c24
                                          by_cases c25 : a0 = 115
                                          · rw [if_pos c25] at H
                                            have c25b0 : (a0 == 115) = true := beq_iff_eq.mpr c25
                                            have c25b1 : (a0 != 115) = false := bne_eq_false_iff_eq.mpr c25
                                            clear c25
                                            obtain rfl := Option.some.inj H
                                            go_wp2
                                            go_ret
                                            exact ⟨by first | rfl | (simp only [wrap_wrap]; done) | (simp only [wrap_wrap]; rfl) | (simp; done) | (simp [*]; done), by repeat (first | exact Drawn0.refl _ | apply Drawn0.step)⟩
                                          · rw [if_neg c25] at H
                                            have c25b0 : (a0 == 115) = false := beq_eq_false_iff_ne.mpr c25
                                            have c25b1 : (a0 != 115) = true := bne_iff_ne.mpr c25
                                            by_cases c26 : a0 = 116
                                            · rw [if_pos c26] at H
                                              have c26b0 : (a0 == 116) = true := beq_iff_eq.mpr c26
                                              have c26b1 : (a0 != 116) = false := bne_eq_false_iff_eq.mpr c26
                                              clear c26
                                              obtain rfl := Option.some.inj H
                                              go_wp2
                                              go_ret
                                              exact ⟨by first | rfl | (simp only [wrap_wrap]; done) | (simp only [wrap_wrap]; rfl) | (simp; done) | (simp [*]; done), by repeat (first | exact Drawn0.refl _ | apply Drawn0.step)⟩
                                            · rw [if_neg c26] at H
                                              have c26b0 : (a0 == 116) = false := beq_eq_false_iff_ne.mpr c26
                                              have c26b1 : (a0 != 116) = true := bne_iff_ne.mpr c26
                                              by_cases c27 : a0 = 119
                                              · rw [if_pos c27] at H
                                                have c27b0 : (a0 == 119) = true := beq_iff_eq.mpr c27
                                                have c27b1 : (a0 != 119) = false := bne_eq_false_iff_eq.mpr c27
                                                clear c27
                                                obtain rfl := Option.some.inj H
                                                go_wp2
                                                go_ret
                                                exact ⟨by first | rfl | (simp only [wrap_wrap]; done) | (simp only [wrap_wrap]; rfl) | (simp; done) | (simp [*]; done), by repeat (first | exact Drawn0.refl _ | apply Drawn0.step)⟩
                                              · rw [if_neg c27] at H
                                                have c27b0 : (a0 == 119) = false := beq_eq_false_iff_ne.mpr c27
                                                have c27b1 : (a0 != 119) = true := bne_iff_ne.mpr c27
                                                by_cases c28 : a0 = 120
                                                · rw [if_pos c28] at H
                                                  have c28b0 : (a0 == 120) = true := beq_iff_eq.mpr c28
                                                  have c28b1 : (a0 != 120) = false := bne_eq_false_iff_eq.mpr c28
                                                  clear c28
                                                  obtain rfl := Option.some.inj H
                                                  go_wp2
                                                  go_ret
                                                  exact ⟨by first | rfl | (simp only [wrap_wrap]; done) | (simp only [wrap_wrap]; rfl) | (simp; done) | (simp [*]; done), by repeat (first | exact Drawn0.refl _ | apply Drawn0.step)⟩
                                                · rw [if_neg c28] at H
                                                  have c28b0 : (a0 == 120) = false := beq_eq_false_iff_ne.mpr c28
                                                  have c28b1 : (a0 != 120) = true := bne_iff_ne.mpr c28
                                                  by_cases c29 : a0 = 121
                                                  · rw [if_pos c29] at H
                                                    have c29b0 : (a0 == 121) = true := beq_iff_eq.mpr c29
                                                    have c29b1 : (a0 != 121) = false := bne_eq_false_iff_eq.mpr c29
                                                    clear c29
                                                    obtain rfl := Option.some.inj H
                                                    go_wp2
                                                    go_ret
                                                    exact ⟨by first | rfl | (simp only [wrap_wrap]; done) | (simp only [wrap_wrap]; rfl) | (simp; done) | (simp [*]; done), by repeat (first | exact Drawn0.refl _ | apply Drawn0.step)⟩
                                                  · rw [if_neg c29] at H
                                                    have c29b0 : (a0 == 121) = false := beq_eq_false_iff_ne.mpr c29
                                                    have c29b1 : (a0 != 121) = true := bne_iff_ne.mpr c29
                                                    obtain rfl := Option.some.inj H
                                                    go_wp2
                                                    go_ret
                                                    exact ⟨by first | rfl | (simp only [wrap_wrap]; done) | (simp only [wrap_wrap]; rfl) | (simp; done) | (simp [*]; done), by repeat (first | exact Drawn0.refl _ | apply Drawn0.step)⟩

end Go.Proofs.Ytdlbmajilmmapaa.F
