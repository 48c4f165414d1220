-- Made by a program of this session (wip/tools/pr.py over the kit's printer). Not trusted: Lean checks it.
import Derived.Test.YtdlbmajilmmapaaDoorFx
import Derived.Test.YtdlbmajilmmapaaDoorF42
namespace Go.Proofs.YtdlbmajilmmapaaDoor.F
open Go.RowKit Go.Proofs.YtdlbmajilmmapaaDoorW.PrintWords Go.Proofs.YtdlbmajilmmapaaDoorW.PrintLast Go.Proofs.YtdlbmajilmmapaaDoorW.PrintMore
attribute [local go_sem] max2_int min2_int max_two min_two max_three min_three max_four min_four
set_option linter.unusedVariables false
set_option linter.unusedSimpArgs false

/-! ### runnelref17_Blanks: function 24 -/
def runnelref17_Blanks.l0 : Nat → ByteArray → Int → Option (Int)
  | 0, _, _ => none
  | k + 1, x0, x5 => if x5 < (x0.size : Int) then (if 0 ≤ x5 then (if (bt x0 x5) = 32 then (runnelref17_Blanks.l0 k x0 (wrap64 (x5 + 1))) else (if (bt x0 x5) = 9 then (runnelref17_Blanks.l0 k x0 (wrap64 (x5 + 1))) else (some x5))) else (none)) else (some (x0.size : Int))
def runnelref17_Blanks.f (k : Nat) (a0 : ByteArray) (a1 : Int) : Option (Int) := (runnelref17_inside.f a0 a1).bind fun t105 => (runnelref17_Blanks.l0 k a0 t105)
theorem runnelref17_Blanks.mono_l : ∀ k, (∀ y0 y1, LeO (runnelref17_Blanks.l0 k y0 y1) (runnelref17_Blanks.l0 (k + 1) y0 y1))
  | 0 => fun _ _ r h => by simp [runnelref17_Blanks.l0] at h
  | k + 1 => by
    have ih0 := runnelref17_Blanks.mono_l k
    · intro y0 y1
      unfold runnelref17_Blanks.l0
      repeat' first
      | (with_reducible exact ih0 _ _)
      | (with_reducible exact LeO.refl _)
      | (with_reducible exact LeO.none _)
      | (with_reducible refine LeO.ite ?_ ?_)
      | (with_reducible refine LeO.bind ?_ (fun _ => ?_))
      | exact ih0 _ _
      | exact LeO.none _
      | refine LeO.ite ?_ ?_
      | refine LeO.bind ?_ (fun _ => ?_)
theorem runnelref17_Blanks.mono : ∀ a0 a1 k, LeO (runnelref17_Blanks.f k a0 a1) (runnelref17_Blanks.f (k + 1) a0 a1) := by
  intro a0 a1 k
  have ih0 := runnelref17_Blanks.mono_l k
  unfold runnelref17_Blanks.f
  repeat' first
      | (with_reducible exact ih0 _ _)
      | (with_reducible exact LeO.refl _)
      | (with_reducible exact LeO.none _)
      | (with_reducible refine LeO.ite ?_ ?_)
      | (with_reducible refine LeO.bind ?_ (fun _ => ?_))
      | exact ih0 _ _
      | exact LeO.none _
      | refine LeO.ite ?_ ?_
      | refine LeO.bind ?_ (fun _ => ?_)
set_option maxHeartbeats 8000000 in
set_option maxRecDepth 100000 in
theorem runnelref17_Blanks.calls (k : Nat) (a0 : ByteArray) (a1 : Int) (r : Int) (w : World) (h : runnelref17_Blanks.f k a0 a1 = some r) :
    Calls Tryd.prog 24 #[.string a0, .int .i64 a1] w fun e w' => e = .returned (.int .i64 r) ∧ Drawn0 w w' := by
  have H : ((runnelref17_inside.f a0 a1).bind fun t105 => (runnelref17_Blanks.l0 k a0 t105)) = some r := h
  clear h
  replace H := Option.bind_eq_some_iff.mp H
  obtain ⟨t105, A30, H⟩ := H
  replace H : (runnelref17_Blanks.l0 k a0 t105) = some r := H
  have A3 := Aside0.mk A30
  clear A30
  have H' := Aside0.mk H
  clear H
  go_enter Tryd.func24, Tryd.ntmps24
  go_wp2_with (first | ((with_reducible refine gate_callee (f := 42) rfl ?_); refine goesL_ (some 8) rfl rfl Tryd.func42 (by kernel_rfl) rfl #[.string a0, .int .i64 a1] rfl (by (try simp only [List.map_toArray, List.map_cons, List.map_nil]); first | done | rfl | (simp only [List.length_drop, List.length_take]; rfl)) ?_; (with_reducible refine (runnelref17_inside.calls a0 a1 t105 _ A3.out).mono ?_); rintro e w' ⟨rfl, ⟨nd, rfl⟩⟩; refine ⟨_, rfl, ?_⟩))
  go_loopg [5] k (fun kq v5 w' => ∃ (x5_1 : Int), v5 = .int .i64 x5_1 ∧ Aside0 (runnelref17_Blanks.l0 kq a0 x5_1 = some r) ∧ Aside0 (kq ≤ k) ∧ Drawn0 w w')
  case atStart => exact ⟨(t105), (by first | rfl | (simp; done) | (simp [*]; done) | (exfalso; simp only [decide_eq_true_eq] at *; omega)), H', ⟨Nat.le_refl _⟩, by repeat (first | exact Drawn0.refl _ | apply Drawn0.step)⟩
  case round =>
    clear H'
    try clear c2
    try clear p2
    obtain ⟨x5_1, rfl, HA, HK1, ⟨m1, rfl⟩⟩ := hrel
    cases gk with
    | zero => exact absurd HA.out (by simp [runnelref17_Blanks.l0])
    | succ k1 =>
      have H := HA.out
      clear HA
      simp only [runnelref17_Blanks.l0] at H
      by_cases c4 : x5_1 < (a0.size : Int)
      · rw [if_pos c4] at H
        have c4b0 : decide (x5_1 < (a0.size : Int)) = true := decide_eq_true c4
        clear c4
        by_cases c5 : 0 ≤ x5_1
        · rw [if_pos c5] at H
          have c5b0 : decide (0 ≤ x5_1) = true := decide_eq_true c5
          clear c5
          by_cases c7 : (bt a0 x5_1) = 32
          · rw [if_pos c7] at H
            have c7b0 : ((bt a0 x5_1) == 32) = true := beq_iff_eq.mpr c7
            have c7b1 : ((bt a0 x5_1) != 32) = false := bne_eq_false_iff_eq.mpr c7
            clear c7
            have H' := Aside0.mk H
            clear H
            have p6 : 0 ≤ (x5_1 : Int) := of_decide_eq_true (by first | (with_reducible assumption) | assumption)
            have q6 : x5_1 < (a0.size : Int) := of_decide_eq_true (by first | (with_reducible assumption) | assumption)
            have hx6 := bt_at a0 x5_1
            replace p6 := eq_true p6
            replace q6 := eq_true q6
            go_wp2
            go_roundg k1
            case measure => have := HK1.out; omega
            case rel => exact ⟨(wrap64 (x5_1 + 1)), (by first | rfl | (simp; done) | (simp [*]; done) | (exfalso; simp only [decide_eq_true_eq] at *; omega)), H', ⟨by have := HK1.out; omega⟩, by repeat (first | exact Drawn0.refl _ | apply Drawn0.step)⟩
          · rw [if_neg c7] at H
            have c7b0 : ((bt a0 x5_1) == 32) = false := beq_eq_false_iff_ne.mpr c7
            have c7b1 : ((bt a0 x5_1) != 32) = true := bne_iff_ne.mpr c7
            by_cases c9 : (bt a0 x5_1) = 9
            · rw [if_pos c9] at H
              have c9b0 : ((bt a0 x5_1) == 9) = true := beq_iff_eq.mpr c9
              have c9b1 : ((bt a0 x5_1) != 9) = false := bne_eq_false_iff_eq.mpr c9
              clear c9
              have H' := Aside0.mk H
              clear H
              have p6 : 0 ≤ (x5_1 : Int) := of_decide_eq_true (by first | (with_reducible assumption) | assumption)
              have q6 : x5_1 < (a0.size : Int) := of_decide_eq_true (by first | (with_reducible assumption) | assumption)
              have hx6 := bt_at a0 x5_1
              replace p6 := eq_true p6
              replace q6 := eq_true q6
              have p8 : 0 ≤ (x5_1 : Int) := of_decide_eq_true (by first | (with_reducible assumption) | assumption)
              have q8 : x5_1 < (a0.size : Int) := of_decide_eq_true (by first | (with_reducible assumption) | assumption)
              have hx8 := bt_at a0 x5_1
              replace p8 := eq_true p8
              replace q8 := eq_true q8
              go_wp2
              go_roundg k1
              case measure => have := HK1.out; omega
              case rel => exact ⟨(wrap64 (x5_1 + 1)), (by first | rfl | (simp; done) | (simp [*]; done) | (exfalso; simp only [decide_eq_true_eq] at *; omega)), H', ⟨by have := HK1.out; omega⟩, by repeat (first | exact Drawn0.refl _ | apply Drawn0.step)⟩
            · rw [if_neg c9] at H
              have c9b0 : ((bt a0 x5_1) == 9) = false := beq_eq_false_iff_ne.mpr c9
              have c9b1 : ((bt a0 x5_1) != 9) = true := bne_iff_ne.mpr c9
              obtain rfl := Option.some.inj H
              have p6 : 0 ≤ (x5_1 : Int) := of_decide_eq_true (by first | (with_reducible assumption) | assumption)
              have q6 : x5_1 < (a0.size : Int) := of_decide_eq_true (by first | (with_reducible assumption) | assumption)
              have hx6 := bt_at a0 x5_1
              replace p6 := eq_true p6
              replace q6 := eq_true q6
              have p8 : 0 ≤ (x5_1 : Int) := of_decide_eq_true (by first | (with_reducible assumption) | assumption)
              have q8 : x5_1 < (a0.size : Int) := of_decide_eq_true (by first | (with_reducible assumption) | assumption)
              have hx8 := bt_at a0 x5_1
              replace p8 := eq_true p8
              replace q8 := eq_true q8
              go_wp2
              go_ret
              exact ⟨by first | rfl | (simp only [wrap_wrap]; done) | (simp only [wrap_wrap]; rfl) | (simp; done) | (simp [*]; done), by repeat (first | exact Drawn0.refl _ | apply Drawn0.step)⟩
        · rw [if_neg c5] at H
          exact absurd H (by simp)
      · rw [if_neg c4] at H
        have c4b0 : decide (x5_1 < (a0.size : Int)) = false := decide_eq_false c4
        clear c4
        obtain rfl := Option.some.inj H
        go_wp2
        go_ret
        exact ⟨by first | rfl | (simp only [wrap_wrap]; done) | (simp only [wrap_wrap]; rfl) | (simp; done) | (simp [*]; done), by repeat (first | exact Drawn0.refl _ | apply Drawn0.step)⟩

end Go.Proofs.YtdlbmajilmmapaaDoor.F
