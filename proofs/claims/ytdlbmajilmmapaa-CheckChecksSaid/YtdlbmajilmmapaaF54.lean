-- Made by a program of this session (wip/tools/pr.py over the kit's printer). Not trusted: Lean checks it.
import Derived.Test.YtdlbmajilmmapaaFx
namespace Go.Proofs.Ytdlbmajilmmapaa.F
open Go.RowKit Go.Proofs.YtdlbmajilmmapaaW.PrintWords Go.Proofs.YtdlbmajilmmapaaW.PrintLast Go.Proofs.YtdlbmajilmmapaaW.PrintMore
attribute [local go_sem] max2_int min2_int max_two min_two max_three min_three max_four min_four
set_option linter.unusedVariables false
set_option linter.unusedSimpArgs false

/-! ### runnelref19_Label: function 54 -/
def runnelref19_Label.l0 : Nat → List (S27) → Int → ByteArray → Int → Option (Int)
  | 0, _, _, _, _ => none
  | k + 1, x0, x1, x2, x7 => if x7 < x1 then (if 0 ≤ x7 then (if x7 < (x0.length : Int) then (if ((rd_T27 x0 x7).f4) = 58 then (if ((rd_T27 x0 x7).f5).toList = x2.toList then (some x7) else (runnelref19_Label.l0 k x0 x1 x2 (wrap64 (x7 + 1)))) else (runnelref19_Label.l0 k x0 x1 x2 (wrap64 (x7 + 1)))) else (none)) else (none)) else (some (-1))
def runnelref19_Label.f (k : Nat) (l0 : List (S27)) (a1 : Int) (a2 : ByteArray) : Option (Int) := runnelref19_Label.l0 k l0 a1 a2 0
theorem runnelref19_Label.mono_l : ∀ k, (∀ y0 y1 y2 y3, LeO (runnelref19_Label.l0 k y0 y1 y2 y3) (runnelref19_Label.l0 (k + 1) y0 y1 y2 y3))
  | 0 => fun _ _ _ _ r h => by simp [runnelref19_Label.l0] at h
  | k + 1 => by
    have ih0 := runnelref19_Label.mono_l k
    · intro y0 y1 y2 y3
      unfold runnelref19_Label.l0
      repeat' first
      | (with_reducible exact ih0 _ _ _ _)
      | (with_reducible exact LeO.refl _)
      | (with_reducible exact LeO.none _)
      | (with_reducible refine LeO.ite ?_ ?_)
      | (with_reducible refine LeO.bind ?_ (fun _ => ?_))
      | exact ih0 _ _ _ _
      | exact LeO.none _
      | refine LeO.ite ?_ ?_
      | refine LeO.bind ?_ (fun _ => ?_)
theorem runnelref19_Label.mono : ∀ a0 a1 a2 k, LeO (runnelref19_Label.f k a0 a1 a2) (runnelref19_Label.f (k + 1) a0 a1 a2) := by
  intro a0 a1 a2 k
  have ih0 := runnelref19_Label.mono_l k
  unfold runnelref19_Label.f
  repeat' first
      | (with_reducible exact ih0 _ _ _ _)
      | (with_reducible exact LeO.refl _)
      | (with_reducible exact LeO.none _)
      | (with_reducible refine LeO.ite ?_ ?_)
      | (with_reducible refine LeO.bind ?_ (fun _ => ?_))
      | exact ih0 _ _ _ _
      | exact LeO.none _
      | refine LeO.ite ?_ ?_
      | refine LeO.bind ?_ (fun _ => ?_)
set_option maxHeartbeats 8000000 in
set_option maxRecDepth 100000 in
theorem runnelref19_Label.calls (k : Nat) (A0 : Option Addr) (c0 : Nat) (l0 : List (S27)) (a1 : Int) (a2 : ByteArray) (r : Int) (w : World) (hr0 : Kd.C k27 w A0 l0.length l0) (hc0 : l0.length ≤ c0) (h : runnelref19_Label.f k l0 a1 a2 = some r) :
    Calls Try.prog 54 #[.slice A0 l0.length c0, .int .i64 a1, .string a2] w fun e w' => e = .returned (.int .i64 r) ∧ Drawn0 w w' := by
  have HR0 := Aside0.mk hr0
  have HC0 := Aside0.mk hc0
  clear hr0 hc0
  have H : (runnelref19_Label.l0 k l0 a1 a2 0) = some r := h
  clear h
  have H' := Aside0.mk H
  clear H
  go_enter Try.func54, Try.ntmps54
  go_wp2
  go_loopg [7] k (fun kq v7 w' => ∃ (x7_1 : Int), v7 = .int .i64 x7_1 ∧ Aside0 (runnelref19_Label.l0 kq l0 a1 a2 x7_1 = some r) ∧ Aside0 (kq ≤ k) ∧ Drawn0 w w')
  case atStart => exact ⟨(0), (by first | rfl | (simp; done) | (simp [*]; done)), H', ⟨Nat.le_refl _⟩, by repeat (first | exact Drawn0.refl _ | apply Drawn0.step)⟩
  case round =>
    clear H'
    try clear p2
    obtain ⟨x7_1, rfl, HA, HK1, ⟨m1, rfl⟩⟩ := hrel
    cases gk with
    | zero => exact absurd HA.out (by simp [runnelref19_Label.l0])
    | succ k1 =>
      have H := HA.out
      clear HA
      simp only [runnelref19_Label.l0] at H
      by_cases c4 : x7_1 < a1
      · rw [if_pos c4] at H
        have c4b0 : decide (x7_1 < a1) = true := decide_eq_true c4
        clear c4
        by_cases c5 : 0 ≤ x7_1
        · rw [if_pos c5] at H
          have c5b0 : decide (0 ≤ x7_1) = true := decide_eq_true c5
          clear c5
          by_cases c6 : x7_1 < (l0.length : Int)
          · rw [if_pos c6] at H
            have c6b0 : decide (x7_1 < (l0.length : Int)) = true := decide_eq_true c6
            clear c6
            by_cases c7 : ((rd_T27 l0 x7_1).f4) = 58
            · rw [if_pos c7] at H
              have c7b0 : (((rd_T27 l0 x7_1).f4) == 58) = true := beq_iff_eq.mpr c7
              have c7b1 : (((rd_T27 l0 x7_1).f4) != 58) = false := bne_eq_false_iff_eq.mpr c7
              clear c7
              by_cases c8 : ((rd_T27 l0 x7_1).f5).toList = a2.toList
              · rw [if_pos c8] at H
                have c8b0 : (((rd_T27 l0 x7_1).f5).toList == a2.toList) = true := beq_iff_eq.mpr c8
                have c8b1 : (((rd_T27 l0 x7_1).f5).toList != a2.toList) = false := bne_eq_false_iff_eq.mpr c8
                clear c8
                obtain rfl := Option.some.inj H
                have p107 : 0 ≤ (x7_1 : Int) := of_decide_eq_true (by first | (with_reducible assumption) | assumption)
                have q107 : x7_1 < (l0.length : Int) := of_decide_eq_true (by first | (with_reducible assumption) | assumption)
                obtain ⟨ad107, A107_13, c107_13, e107, hx107_0, hx107_1, hx107_2, hx107_3, hx107_4, hx107_5, hx107_6, hx107_7, hx107_8, hx107_9, hx107_10, hx107_11, hx107_12, hx107_13, hx107_14, hx107_15, hx107_16, hx107_17, hx107_18, hl107_13, hi107_13⟩ := at_T27 HR0.out x7_1 p107 q107
                cases e107
                have HR107_13 := Aside0.mk hi107_13
                have HC107_13 := Aside0.mk hl107_13
                clear hi107_13 hl107_13
                replace p107 := eq_true p107
                replace q107 := eq_true q107
                have p108 : 0 ≤ (x7_1 : Int) := of_decide_eq_true (by first | (with_reducible assumption) | assumption)
                have q108 : x7_1 < (l0.length : Int) := of_decide_eq_true (by first | (with_reducible assumption) | assumption)
                obtain ⟨ad108, A108_13, c108_13, e108, hx108_0, hx108_1, hx108_2, hx108_3, hx108_4, hx108_5, hx108_6, hx108_7, hx108_8, hx108_9, hx108_10, hx108_11, hx108_12, hx108_13, hx108_14, hx108_15, hx108_16, hx108_17, hx108_18, hl108_13, hi108_13⟩ := at_T27 HR0.out x7_1 p108 q108
                obtain rfl : ad107 = ad108 := (by injection e108)
                have HR108_13 := Aside0.mk hi108_13
                have HC108_13 := Aside0.mk hl108_13
                clear hi108_13 hl108_13
                replace p108 := eq_true p108
                replace q108 := eq_true q108
                have ea_ := Option.some.inj (hx107_13.symm.trans hx108_13)
                injection ea_ with ea_ en_ ec_
                subst ea_
                subst ec_
                clear en_
                go_wp2
                go_ret
                exact ⟨by first | rfl | (simp only [wrap_wrap]; done) | (simp only [wrap_wrap]; rfl) | (simp; done) | (simp [*]; done), by repeat (first | exact Drawn0.refl _ | apply Drawn0.step)⟩
              · rw [if_neg c8] at H
                have c8b0 : (((rd_T27 l0 x7_1).f5).toList == a2.toList) = false := beq_eq_false_iff_ne.mpr c8
                have c8b1 : (((rd_T27 l0 x7_1).f5).toList != a2.toList) = true := bne_iff_ne.mpr c8
                have H' := Aside0.mk H
                clear H
                have p107 : 0 ≤ (x7_1 : Int) := of_decide_eq_true (by first | (with_reducible assumption) | assumption)
                have q107 : x7_1 < (l0.length : Int) := of_decide_eq_true (by first | (with_reducible assumption) | assumption)
                obtain ⟨ad107, A107_13, c107_13, e107, hx107_0, hx107_1, hx107_2, hx107_3, hx107_4, hx107_5, hx107_6, hx107_7, hx107_8, hx107_9, hx107_10, hx107_11, hx107_12, hx107_13, hx107_14, hx107_15, hx107_16, hx107_17, hx107_18, hl107_13, hi107_13⟩ := at_T27 HR0.out x7_1 p107 q107
                cases e107
                have HR107_13 := Aside0.mk hi107_13
                have HC107_13 := Aside0.mk hl107_13
                clear hi107_13 hl107_13
                replace p107 := eq_true p107
                replace q107 := eq_true q107
                have p108 : 0 ≤ (x7_1 : Int) := of_decide_eq_true (by first | (with_reducible assumption) | assumption)
                have q108 : x7_1 < (l0.length : Int) := of_decide_eq_true (by first | (with_reducible assumption) | assumption)
                obtain ⟨ad108, A108_13, c108_13, e108, hx108_0, hx108_1, hx108_2, hx108_3, hx108_4, hx108_5, hx108_6, hx108_7, hx108_8, hx108_9, hx108_10, hx108_11, hx108_12, hx108_13, hx108_14, hx108_15, hx108_16, hx108_17, hx108_18, hl108_13, hi108_13⟩ := at_T27 HR0.out x7_1 p108 q108
                obtain rfl : ad107 = ad108 := (by injection e108)
                have HR108_13 := Aside0.mk hi108_13
                have HC108_13 := Aside0.mk hl108_13
                clear hi108_13 hl108_13
                replace p108 := eq_true p108
                replace q108 := eq_true q108
                have ea_ := Option.some.inj (hx107_13.symm.trans hx108_13)
                injection ea_ with ea_ en_ ec_
                subst ea_
                subst ec_
                clear en_
                go_wp2
                go_roundg k1
                case measure => have := HK1.out; omega
                case rel => exact ⟨(wrap64 (x7_1 + 1)), (by first | rfl | (simp; done) | (simp [*]; done)), H', ⟨by have := HK1.out; omega⟩, by repeat (first | exact Drawn0.refl _ | apply Drawn0.step)⟩
            · rw [if_neg c7] at H
              have c7b0 : (((rd_T27 l0 x7_1).f4) == 58) = false := beq_eq_false_iff_ne.mpr c7
              have c7b1 : (((rd_T27 l0 x7_1).f4) != 58) = true := bne_iff_ne.mpr c7
              have H' := Aside0.mk H
              clear H
              have p107 : 0 ≤ (x7_1 : Int) := of_decide_eq_true (by first | (with_reducible assumption) | assumption)
              have q107 : x7_1 < (l0.length : Int) := of_decide_eq_true (by first | (with_reducible assumption) | assumption)
              obtain ⟨ad107, A107_13, c107_13, e107, hx107_0, hx107_1, hx107_2, hx107_3, hx107_4, hx107_5, hx107_6, hx107_7, hx107_8, hx107_9, hx107_10, hx107_11, hx107_12, hx107_13, hx107_14, hx107_15, hx107_16, hx107_17, hx107_18, hl107_13, hi107_13⟩ := at_T27 HR0.out x7_1 p107 q107
              cases e107
              have HR107_13 := Aside0.mk hi107_13
              have HC107_13 := Aside0.mk hl107_13
              clear hi107_13 hl107_13
              replace p107 := eq_true p107
              replace q107 := eq_true q107
              go_wp2
              go_roundg k1
              case measure => have := HK1.out; omega
              case rel => exact ⟨(wrap64 (x7_1 + 1)), (by first | rfl | (simp; done) | (simp [*]; done)), H', ⟨by have := HK1.out; omega⟩, by repeat (first | exact Drawn0.refl _ | apply Drawn0.step)⟩
          · rw [if_neg c6] at H
            exact absurd H (by simp)
        · rw [if_neg c5] at H
          exact absurd H (by simp)
      · rw [if_neg c4] at H
        have c4b0 : decide (x7_1 < a1) = false := decide_eq_false c4
        clear c4
        obtain rfl := Option.some.inj H
        go_wp2
        go_ret
        exact ⟨by first | rfl | (simp only [wrap_wrap]; done) | (simp only [wrap_wrap]; rfl) | (simp; done) | (simp [*]; done), by repeat (first | exact Drawn0.refl _ | apply Drawn0.step)⟩

end Go.Proofs.Ytdlbmajilmmapaa.F
