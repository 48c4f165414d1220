-- Made by a program of this session (wip/tools/pr.py over the kit's printer). Not trusted: Lean checks it.
import Derived.Test.YtdlbmajilmmapaaFx
namespace Go.Proofs.Ytdlbmajilmmapaa.F
open Go.RowKit Go.Proofs.YtdlbmajilmmapaaW.PrintWords Go.Proofs.YtdlbmajilmmapaaW.PrintLast Go.Proofs.YtdlbmajilmmapaaW.PrintMore
attribute [local go_sem] max2_int min2_int max_two min_two max_three min_three max_four min_four
set_option linter.unusedVariables false
set_option linter.unusedSimpArgs false

/-! ### runnelref17_DocUntil: function 29 -/
mutual
def runnelref17_DocUntil.j0 : Nat → ByteArray → Int → Int → Bool → Bool → Option (ByteArray × Int × Int)
  | 0, _, _, _, _, _ => none
  | k + 1, x0, x1, x2, x3, x31 => if x31 = true then (some ((⟨#[]⟩ : ByteArray), 0, 1)) else (runnelref17_DocUntil.l0 k x0 x2 x3 ([] : List Int) x1)
def runnelref17_DocUntil.l0 : Nat → ByteArray → Int → Bool → List Int → Int → Option (ByteArray × Int × Int)
  | 0, _, _, _, _, _ => none
  | k + 1, x0, x2, x3, x11, x12 => if x12 < (x0.size : Int) then (if 0 ≤ x12 then (if (bt x0 x12) = x2 then (some (strOfNums x11, wrap64 (x12 + 1), 0)) else (if (bt x0 x12) = 10 then (some ((⟨#[]⟩ : ByteArray), 0, 6)) else (if (bt x0 x12) = 92 then (if (wrap64 (x12 + 1)) = (x0.size : Int) then (runnelref17_DocUntil.j2 k x0 x2 x3 x11 x12 (bt x0 x12) true) else (if 0 ≤ (wrap64 (x12 + 1)) then (if (wrap64 (x12 + 1)) < (x0.size : Int) then (if (bt x0 (wrap64 (x12 + 1))) = 10 then (runnelref17_DocUntil.j2 k x0 x2 x3 x11 x12 (bt x0 x12) (!x3)) else (runnelref17_DocUntil.j2 k x0 x2 x3 x11 x12 (bt x0 x12) false)) else (none)) else (none))) else (if x11.length < 140737488355328 then (runnelref17_DocUntil.l0 k x0 x2 x3 (x11 ++ [bt x0 x12]) (wrap64 (x12 + 1))) else (none))))) else (none)) else (some ((⟨#[]⟩ : ByteArray), 0, 6))
def runnelref17_DocUntil.j2 : Nat → ByteArray → Int → Bool → List Int → Int → Int → Bool → Option (ByteArray × Int × Int)
  | 0, _, _, _, _, _, _, _ => none
  | k + 1, x0, x2, x3, x11, x12, x13, x72 => if x72 = true then (some ((⟨#[]⟩ : ByteArray), 0, 6)) else (if 0 ≤ (wrap64 (x12 + 1)) then (if (wrap64 (x12 + 1)) < (x0.size : Int) then (if (bt x0 (wrap64 (x12 + 1))) = x2 then (if (bt x0 (wrap64 (x12 + 1))) = 46 then (if x11.length < 140737488355328 then ((some (x11 ++ [x13] : List Int)).bind fun y231 => (if y231.length < 140737488355328 then (runnelref17_DocUntil.l0 k x0 x2 x3 (y231 ++ [bt x0 (wrap64 (x12 + 1))]) (wrap64 (x12 + 2))) else (none))) else (none)) else (if (bt x0 (wrap64 (x12 + 1))) = 91 then (if x11.length < 140737488355328 then ((some (x11 ++ [x13] : List Int)).bind fun y237 => (if y237.length < 140737488355328 then (runnelref17_DocUntil.l0 k x0 x2 x3 (y237 ++ [bt x0 (wrap64 (x12 + 1))]) (wrap64 (x12 + 2))) else (none))) else (none)) else (if (bt x0 (wrap64 (x12 + 1))) = 42 then (if x11.length < 140737488355328 then ((some (x11 ++ [x13] : List Int)).bind fun y243 => (if y243.length < 140737488355328 then (runnelref17_DocUntil.l0 k x0 x2 x3 (y243 ++ [bt x0 (wrap64 (x12 + 1))]) (wrap64 (x12 + 2))) else (none))) else (none)) else (if (bt x0 (wrap64 (x12 + 1))) = 94 then (if x11.length < 140737488355328 then ((some (x11 ++ [x13] : List Int)).bind fun y249 => (if y249.length < 140737488355328 then (runnelref17_DocUntil.l0 k x0 x2 x3 (y249 ++ [bt x0 (wrap64 (x12 + 1))]) (wrap64 (x12 + 2))) else (none))) else (none)) else (if (bt x0 (wrap64 (x12 + 1))) = 36 then (if x11.length < 140737488355328 then ((some (x11 ++ [x13] : List Int)).bind fun y255 => (if y255.length < 140737488355328 then (runnelref17_DocUntil.l0 k x0 x2 x3 (y255 ++ [bt x0 (wrap64 (x12 + 1))]) (wrap64 (x12 + 2))) else (none))) else (none)) else (if (bt x0 (wrap64 (x12 + 1))) = 38 then (if x11.length < 140737488355328 then ((some (x11 ++ [x13] : List Int)).bind fun y261 => (if y261.length < 140737488355328 then (runnelref17_DocUntil.l0 k x0 x2 x3 (y261 ++ [bt x0 (wrap64 (x12 + 1))]) (wrap64 (x12 + 2))) else (none))) else (none)) else (if x11.length < 140737488355328 then (runnelref17_DocUntil.l0 k x0 x2 x3 (x11 ++ [bt x0 (wrap64 (x12 + 1))]) (wrap64 (x12 + 2))) else (none)))))))) else (if x11.length < 140737488355328 then ((some (x11 ++ [x13] : List Int)).bind fun y270 => (if y270.length < 140737488355328 then (runnelref17_DocUntil.l0 k x0 x2 x3 (y270 ++ [bt x0 (wrap64 (x12 + 1))]) (wrap64 (x12 + 2))) else (none))) else (none))) else (none)) else (none))
end
def runnelref17_DocUntil.f (k : Nat) (a0 : ByteArray) (a1 : Int) (a2 : Int) (a3 : Bool) : Option (ByteArray × Int × Int) := if a1 < 0 then (runnelref17_DocUntil.j0 k a0 a1 a2 a3 true) else (if a1 > (a0.size : Int) then (runnelref17_DocUntil.j0 k a0 a1 a2 a3 true) else (if a2 = 10 then (runnelref17_DocUntil.j0 k a0 a1 a2 a3 true) else (runnelref17_DocUntil.j0 k a0 a1 a2 a3 (a2 == 92))))
theorem runnelref17_DocUntil.mono_l : ∀ k, (∀ y0 y1 y2 y3 y4, LeO (runnelref17_DocUntil.j0 k y0 y1 y2 y3 y4) (runnelref17_DocUntil.j0 (k + 1) y0 y1 y2 y3 y4)) ∧ (∀ y0 y1 y2 y3 y4, LeO (runnelref17_DocUntil.l0 k y0 y1 y2 y3 y4) (runnelref17_DocUntil.l0 (k + 1) y0 y1 y2 y3 y4)) ∧ (∀ y0 y1 y2 y3 y4 y5 y6, LeO (runnelref17_DocUntil.j2 k y0 y1 y2 y3 y4 y5 y6) (runnelref17_DocUntil.j2 (k + 1) y0 y1 y2 y3 y4 y5 y6))
  | 0 => ⟨fun _ _ _ _ _ r h => by simp [runnelref17_DocUntil.j0] at h, fun _ _ _ _ _ r h => by simp [runnelref17_DocUntil.l0] at h, fun _ _ _ _ _ _ _ r h => by simp [runnelref17_DocUntil.j2] at h⟩
  | k + 1 => by
    obtain ⟨ih0, ih1, ih2⟩ := runnelref17_DocUntil.mono_l k
    refine ⟨?_, ?_, ?_⟩
    · intro y0 y1 y2 y3 y4
      unfold runnelref17_DocUntil.j0
      repeat' first
      | (with_reducible exact ih0 _ _ _ _ _)
      | (with_reducible exact ih1 _ _ _ _ _)
      | (with_reducible exact ih2 _ _ _ _ _ _ _)
      | (with_reducible exact LeO.refl _)
      | (with_reducible exact LeO.none _)
      | (with_reducible refine LeO.ite ?_ ?_)
      | (with_reducible refine LeO.bind ?_ (fun _ => ?_))
      | exact ih0 _ _ _ _ _
      | exact ih1 _ _ _ _ _
      | exact ih2 _ _ _ _ _ _ _
      | exact LeO.none _
      | refine LeO.ite ?_ ?_
      | refine LeO.bind ?_ (fun _ => ?_)
    · intro y0 y1 y2 y3 y4
      unfold runnelref17_DocUntil.l0
      repeat' first
      | (with_reducible exact ih0 _ _ _ _ _)
      | (with_reducible exact ih1 _ _ _ _ _)
      | (with_reducible exact ih2 _ _ _ _ _ _ _)
      | (with_reducible exact LeO.refl _)
      | (with_reducible exact LeO.none _)
      | (with_reducible refine LeO.ite ?_ ?_)
      | (with_reducible refine LeO.bind ?_ (fun _ => ?_))
      | exact ih0 _ _ _ _ _
      | exact ih1 _ _ _ _ _
      | exact ih2 _ _ _ _ _ _ _
      | exact LeO.none _
      | refine LeO.ite ?_ ?_
      | refine LeO.bind ?_ (fun _ => ?_)
    · intro y0 y1 y2 y3 y4 y5 y6
      unfold runnelref17_DocUntil.j2
      repeat' first
      | (with_reducible exact ih0 _ _ _ _ _)
      | (with_reducible exact ih1 _ _ _ _ _)
      | (with_reducible exact ih2 _ _ _ _ _ _ _)
      | (with_reducible exact LeO.refl _)
      | (with_reducible exact LeO.none _)
      | (with_reducible refine LeO.ite ?_ ?_)
      | (with_reducible refine LeO.bind ?_ (fun _ => ?_))
      | exact ih0 _ _ _ _ _
      | exact ih1 _ _ _ _ _
      | exact ih2 _ _ _ _ _ _ _
      | exact LeO.none _
      | refine LeO.ite ?_ ?_
      | refine LeO.bind ?_ (fun _ => ?_)
theorem runnelref17_DocUntil.mono : ∀ a0 a1 a2 a3 k, LeO (runnelref17_DocUntil.f k a0 a1 a2 a3) (runnelref17_DocUntil.f (k + 1) a0 a1 a2 a3) := by
  intro a0 a1 a2 a3 k
  obtain ⟨ih0, ih1, ih2⟩ := runnelref17_DocUntil.mono_l k
  unfold runnelref17_DocUntil.f
  repeat' first
      | (with_reducible exact ih0 _ _ _ _ _)
      | (with_reducible exact ih1 _ _ _ _ _)
      | (with_reducible exact ih2 _ _ _ _ _ _ _)
      | (with_reducible exact LeO.refl _)
      | (with_reducible exact LeO.none _)
      | (with_reducible refine LeO.ite ?_ ?_)
      | (with_reducible refine LeO.bind ?_ (fun _ => ?_))
      | exact ih0 _ _ _ _ _
      | exact ih1 _ _ _ _ _
      | exact ih2 _ _ _ _ _ _ _
      | exact LeO.none _
      | refine LeO.ite ?_ ?_
      | refine LeO.bind ?_ (fun _ => ?_)
set_option maxHeartbeats 8000000 in
set_option maxRecDepth 100000 in
theorem runnelref17_DocUntil.calls (k : Nat) (a0 : ByteArray) (a1 : Int) (a2 : Int) (a3 : Bool) (r1 : ByteArray) (r2 : Int) (r3 : Int) (w : World) (h : runnelref17_DocUntil.f k a0 a1 a2 a3 = some (r1, r2, r3)) :
    Calls Try.prog 29 #[.string a0, .int .i64 a1, .int .u8 a2, .bool a3] w fun e w' => e = .returned (.tuple #[.string r1, .int .i64 r2, .int .i64 r3]) ∧ Below w.heap.size w w' := by
  have HB := Aside0.mk (Below.refl w.heap.size w)
  have H : (if a1 < 0 then (runnelref17_DocUntil.j0 k a0 a1 a2 a3 true) else (if a1 > (a0.size : Int) then (runnelref17_DocUntil.j0 k a0 a1 a2 a3 true) else (if a2 = 10 then (runnelref17_DocUntil.j0 k a0 a1 a2 a3 true) else (runnelref17_DocUntil.j0 k a0 a1 a2 a3 (a2 == 92))))) = some (r1, r2, r3) := h
  clear h
  have HC5 := Aside0.mk H
  clear H
  go_enter Try.func29, Try.ntmps29
  go_upto_region 1 with (fail)
  go_cut [31] (fun v31 wc => ∃ (kq : Nat) (x31_4 : Bool), v31 = .bool x31_4 ∧ Aside0 (runnelref17_DocUntil.j0 kq a0 a1 a2 a3 x31_4 = some (r1, r2, r3)) ∧ Aside0 (kq ≤ k) ∧ Aside0 (Below w.heap.size w wc))
  case first =>
    have H := HC5.out
    clear HC5
    by_cases c6 : a1 < 0
    · rw [if_pos c6] at H
      have c6b0 : decide (a1 < 0) = true := decide_eq_true c6
      clear c6
      (first | rw [c6b0] | (simp only [i64_w, i32_w]; rw [c6b0]) | skip)
      have H' := Aside0.mk H
      clear H
      go_wp2
      go_meet
      case rel => exact ⟨_, (true), (by first | rfl | (simp; done) | (simp [*]; done)), H', ⟨by first | omega | exact Nat.le_refl _⟩, ⟨by repeat (first | (with_reducible first | exact HB.out | apply below_alloc | apply pw_below_drewN | apply below_drew1) | exact HB.out)⟩⟩
    · rw [if_neg c6] at H
      have c6b0 : decide (a1 < 0) = false := decide_eq_false c6
      clear c6
      (first | rw [c6b0] | (simp only [i64_w, i32_w]; rw [c6b0]) | skip)
      by_cases c7 : a1 > (a0.size : Int)
      · rw [if_pos c7] at H
        have c7b0 : decide ((a0.size : Int) < a1) = true := decide_eq_true c7
        clear c7
        have H' := Aside0.mk H
        clear H
        go_wp2
        go_meet
        case rel => exact ⟨_, (true), (by first | rfl | (simp; done) | (simp [*]; done)), H', ⟨by first | omega | exact Nat.le_refl _⟩, ⟨by repeat (first | (with_reducible first | exact HB.out | apply below_alloc | apply pw_below_drewN | apply below_drew1) | exact HB.out)⟩⟩
      · rw [if_neg c7] at H
        have c7b0 : decide ((a0.size : Int) < a1) = false := decide_eq_false c7
        clear c7
        by_cases c8 : a2 = 10
        · rw [if_pos c8] at H
          have c8b0 : (a2 == 10) = true := beq_iff_eq.mpr c8
          have c8b1 : (a2 != 10) = false := bne_eq_false_iff_eq.mpr c8
          clear c8
          have H' := Aside0.mk H
          clear H
          go_wp2
          go_meet
          case rel => exact ⟨_, (true), (by first | rfl | (simp; done) | (simp [*]; done)), H', ⟨by first | omega | exact Nat.le_refl _⟩, ⟨by repeat (first | (with_reducible first | exact HB.out | apply below_alloc | apply pw_below_drewN | apply below_drew1) | exact HB.out)⟩⟩
        · rw [if_neg c8] at H
          have c8b0 : (a2 == 10) = false := beq_eq_false_iff_ne.mpr c8
          have c8b1 : (a2 != 10) = true := bne_iff_ne.mpr c8
          have H' := Aside0.mk H
          clear H
          go_wp2
          go_meet
          case rel => exact ⟨_, ((a2 == 92)), (by first | rfl | (simp; done) | (simp [*]; done)), H', ⟨by first | omega | exact Nat.le_refl _⟩, ⟨by repeat (first | (with_reducible first | exact HB.out | apply below_alloc | apply pw_below_drewN | apply below_drew1) | exact HB.out)⟩⟩
  case rest =>
    clear HC5
    try clear c2
    try clear p2
    try clear c6
    try clear c6b0
    try clear c7
    try clear c7b0
    try clear c8
    try clear c8b0
    try clear c8b1
    obtain ⟨kq, x31_4, rfl, HA, HJ4, HB⟩ := hcut
    cases kq with
    | zero => exact absurd HA.out (by simp [runnelref17_DocUntil.j0])
    | succ kj4 =>
      have H := HA.out
      clear HA
      simp only [runnelref17_DocUntil.j0] at H
      by_cases c9 : x31_4 = true
      · subst c9
        have H1 : (some ((⟨#[]⟩ : ByteArray), 0, 1)) = some (r1, r2, r3) := by rw [if_pos rfl] at H; exact H
        clear H
        have H := H1
        clear H1
        simp only [Option.some.injEq, Prod.mk.injEq] at H
        obtain ⟨rfl, rfl, rfl⟩ := H
        go_wp2
        go_ret3
        exact ⟨by first | rfl | (simp only [wrap_wrap]; done) | (simp only [wrap_wrap]; rfl) | (simp [errW_none, errW_some] <;> rfl) | (simp [*, errW_none, errW_some] <;> rfl), by repeat (first | (with_reducible first | exact HB.out | apply below_alloc | apply pw_below_drewN | apply below_drew1) | exact HB.out)⟩
      · replace c9 := Bool.eq_false_iff.mpr c9
        subst c9
        have H1 : (runnelref17_DocUntil.l0 kj4 a0 a2 a3 ([] : List Int) a1) = some (r1, r2, r3) := by rw [if_neg (show ¬ (false = true) by decide)] at H; exact H
        clear H
        have H := H1
        clear H1
        have H' := Aside0.mk H
        clear H
        go_wp2
        go_loopg [11, 12] kj4 (fun kq v11 v12 w' => ∃ (x11_2 : List Int) (x12_2 : Int), v12 = .int .i64 x12_2 ∧ Aside0 (runnelref17_DocUntil.l0 kq a0 a2 a3 x11_2 x12_2 = some (r1, r2, r3)) ∧ Aside0 (kq ≤ kj4) ∧ Aside0 (Kd.R (Kd.int .u8) 5 w' w.heap.size (fun _ => True) v11 x11_2) ∧ Aside0 (Below w.heap.size w w'))
        case atStart => exact ⟨(([] : List Int)), (a1), (by first | rfl | (simp; done) | (simp [*]; done)), H', ⟨Nat.le_refl _⟩, ⟨by first | exact Kd.R_nil _ _ _ _ _ | exact Kd.N_nil _ _ _ _ _ | exact Kd.V_nil _ _ _ _ _ | exact Kd.Q_nil _ _ _ _ _ | exact Kd.S_nil _ _ _ _ _⟩, ⟨by repeat (first | (with_reducible first | exact HB.out | apply below_alloc | apply pw_below_drewN | apply below_drew1) | exact HB.out)⟩⟩
        case round =>
          clear H'
          try clear c2
          try clear p2
          try clear c6
          try clear c6b0
          try clear c7
          try clear c7b0
          try clear c8
          try clear c8b0
          try clear c8b1
          try clear c9
          try clear p2
          obtain ⟨x11_2, x12_2, rfl, HA, HK2, HO_11, HB⟩ := hrel
          cases gk with
          | zero => exact absurd HA.out (by simp [runnelref17_DocUntil.l0])
          | succ k2 =>
            have H := HA.out
            clear HA
            simp only [runnelref17_DocUntil.l0] at H
            by_cases c10 : x12_2 < (a0.size : Int)
            · rw [if_pos c10] at H
              have c10b0 : decide (x12_2 < (a0.size : Int)) = true := decide_eq_true c10
              clear c10
              by_cases c11 : 0 ≤ x12_2
              · rw [if_pos c11] at H
                have c11b0 : decide (0 ≤ x12_2) = true := decide_eq_true c11
                clear c11
                by_cases c13 : (bt a0 x12_2) = a2
                · rw [if_pos c13] at H
                  have c13b0 : ((bt a0 x12_2) == a2) = true := beq_iff_eq.mpr c13
                  have c13b1 : ((bt a0 x12_2) != a2) = false := bne_eq_false_iff_eq.mpr c13
                  clear c13
                  simp only [Option.some.injEq, Prod.mk.injEq] at H
                  obtain ⟨rfl, rfl, rfl⟩ := H
                  have p12 : 0 ≤ (x12_2 : Int) := of_decide_eq_true (by first | (with_reducible assumption) | assumption)
                  have q12 : x12_2 < (a0.size : Int) := of_decide_eq_true (by first | (with_reducible assumption) | assumption)
                  have hx12 := bt_at a0 x12_2
                  replace p12 := eq_true p12
                  replace q12 := eq_true q12
                  have hcv14 := own_string (P := Try.prog) Try.underlying39 Try.underlying5 Try.underlying9 (Kd.own_of_R HO_11.out)
                  go_wp2
                  go_ret3
                  exact ⟨by first | rfl | (simp only [wrap_wrap]; done) | (simp only [wrap_wrap]; rfl) | (simp [errW_none, errW_some] <;> rfl) | (simp [*, errW_none, errW_some] <;> rfl), by repeat (first | (with_reducible first | exact HB.out | apply below_alloc | apply pw_below_drewN | apply below_drew1) | exact HB.out)⟩
                · rw [if_neg c13] at H
                  have c13b0 : ((bt a0 x12_2) == a2) = false := beq_eq_false_iff_ne.mpr c13
                  have c13b1 : ((bt a0 x12_2) != a2) = true := bne_iff_ne.mpr c13
                  by_cases c15 : (bt a0 x12_2) = 10
                  · rw [if_pos c15] at H
                    have c15b0 : ((bt a0 x12_2) == 10) = true := beq_iff_eq.mpr c15
                    have c15b1 : ((bt a0 x12_2) != 10) = false := bne_eq_false_iff_eq.mpr c15
                    clear c15
                    simp only [Option.some.injEq, Prod.mk.injEq] at H
                    obtain ⟨rfl, rfl, rfl⟩ := H
                    have p12 : 0 ≤ (x12_2 : Int) := of_decide_eq_true (by first | (with_reducible assumption) | assumption)
                    have q12 : x12_2 < (a0.size : Int) := of_decide_eq_true (by first | (with_reducible assumption) | assumption)
                    have hx12 := bt_at a0 x12_2
                    replace p12 := eq_true p12
                    replace q12 := eq_true q12
                    go_wp2
                    go_ret3
                    exact ⟨by first | rfl | (simp only [wrap_wrap]; done) | (simp only [wrap_wrap]; rfl) | (simp [errW_none, errW_some] <;> rfl) | (simp [*, errW_none, errW_some] <;> rfl), by repeat (first | (with_reducible first | exact HB.out | apply below_alloc | apply pw_below_drewN | apply below_drew1) | exact HB.out)⟩
                  · rw [if_neg c15] at H
                    have c15b0 : ((bt a0 x12_2) == 10) = false := beq_eq_false_iff_ne.mpr c15
                    have c15b1 : ((bt a0 x12_2) != 10) = true := bne_iff_ne.mpr c15
                    by_cases c16 : (bt a0 x12_2) = 92
                    · rw [if_pos c16] at H
                      have c16b0 : ((bt a0 x12_2) == 92) = true := beq_iff_eq.mpr c16
                      have c16b1 : ((bt a0 x12_2) != 92) = false := bne_eq_false_iff_eq.mpr c16
                      clear c16
                      have HC17 := Aside0.mk H
                      clear H
                      have p12 : 0 ≤ (x12_2 : Int) := of_decide_eq_true (by first | (with_reducible assumption) | assumption)
                      have q12 : x12_2 < (a0.size : Int) := of_decide_eq_true (by first | (with_reducible assumption) | assumption)
                      have hx12 := bt_at a0 x12_2
                      replace p12 := eq_true p12
                      replace q12 := eq_true q12
                      go_upto_region 14 with (fail)
                      go_cut [72] (fun v72 wc => ∃ (kq : Nat) (x72_16 : Bool), v72 = .bool x72_16 ∧ Aside0 (runnelref17_DocUntil.j2 kq a0 a2 a3 x11_2 x12_2 (bt a0 x12_2) x72_16 = some (r1, r2, r3)) ∧ Aside0 (kq ≤ k2) ∧ Aside0 (Kd.R (Kd.int .u8) 5 wc w.heap.size (fun _ => True) u11 x11_2) ∧ Aside0 (Below w.heap.size w wc))
                      case first =>
                        have H := HC17.out
                        clear HC17
                        by_cases c18 : (wrap64 (x12_2 + 1)) = (a0.size : Int)
                        · rw [if_pos c18] at H
                          have c18b0 : ((wrap64 (x12_2 + 1)) == (a0.size : Int)) = true := beq_iff_eq.mpr c18
                          have c18b1 : ((wrap64 (x12_2 + 1)) != (a0.size : Int)) = false := bne_eq_false_iff_eq.mpr c18
                          clear c18
                          (first | rw [c18b0] | (simp only [i64_w, i32_w]; rw [c18b0]) | skip)
                          have H' := Aside0.mk H
                          clear H
                          go_wp2
                          go_meet
                          case rel => exact ⟨_, (true), (by first | rfl | (simp; done) | (simp [*]; done)), H', ⟨by have := HJ4.out; have := HK2.out; first | omega | exact Nat.le_refl _⟩, ⟨by (with_reducible repeat (first | apply Kd.R_alloc | apply Kd.R_drewN | apply Kd.R_drew)); exact HO_11.out⟩, ⟨by repeat (first | (with_reducible first | exact HB.out | apply below_alloc | apply pw_below_drewN | apply below_drew1) | exact HB.out)⟩⟩
                        · rw [if_neg c18] at H
                          have c18b0 : ((wrap64 (x12_2 + 1)) == (a0.size : Int)) = false := beq_eq_false_iff_ne.mpr c18
                          have c18b1 : ((wrap64 (x12_2 + 1)) != (a0.size : Int)) = true := bne_iff_ne.mpr c18
                          (first | rw [c18b0] | (simp only [i64_w, i32_w]; rw [c18b0]) | skip)
                          obtain ⟨ji19, hji19⟩ : ∃ j_ : Int, (wrap64 (x12_2 + 1)) = j_ := ⟨_, rfl⟩
                          replace H : (if 0 ≤ (ji19) then (if (ji19) < (a0.size : Int) then (if (bt a0 (ji19)) = 10 then (runnelref17_DocUntil.j2 k2 a0 a2 a3 x11_2 x12_2 (bt a0 x12_2) (!a3)) else (runnelref17_DocUntil.j2 k2 a0 a2 a3 x11_2 x12_2 (bt a0 x12_2) false)) else (none)) else (none)) = some (r1, r2, r3) := by first | (rw [hji19] at H; exact H) | (simp only [hji19] at H ⊢; exact H)
                          (try rw [hji19] at c18b0)
                          (try rw [hji19] at c18b1)
                          have hji19w : (IntKind.i64.wrap (x12_2 + 1)) = ji19 := (i64_w _).trans hji19
                          by_cases c20 : 0 ≤ (ji19)
                          · rw [if_pos c20] at H
                            have c20b0 : decide (0 ≤ (ji19)) = true := decide_eq_true c20
                            clear c20
                            by_cases c21 : (ji19) < (a0.size : Int)
                            · rw [if_pos c21] at H
                              have c21b0 : decide ((ji19) < (a0.size : Int)) = true := decide_eq_true c21
                              clear c21
                              by_cases c23 : (bt a0 (ji19)) = 10
                              · rw [if_pos c23] at H
                                have c23b0 : ((bt a0 (ji19)) == 10) = true := beq_iff_eq.mpr c23
                                have c23b1 : ((bt a0 (ji19)) != 10) = false := bne_eq_false_iff_eq.mpr c23
                                clear c23
                                have H' := Aside0.mk H
                                clear H
                                have p22 : 0 ≤ ((ji19) : Int) := of_decide_eq_true (by first | (with_reducible assumption) | assumption)
                                have q22 : (ji19) < (a0.size : Int) := of_decide_eq_true (by first | (with_reducible assumption) | assumption)
                                have hx22 := bt_at a0 (ji19)
                                replace p22 := eq_true p22
                                replace q22 := eq_true q22
                                go_wp2
                                go_meet
                                case rel => exact ⟨_, (!a3), (by first | rfl | (simp; done) | (simp [*]; done)), (by first | exact H' | (simp only [hji19]; exact H')), ⟨by have := HJ4.out; have := HK2.out; first | omega | exact Nat.le_refl _⟩, ⟨by (with_reducible repeat (first | apply Kd.R_alloc | apply Kd.R_drewN | apply Kd.R_drew)); exact HO_11.out⟩, ⟨by repeat (first | (with_reducible first | exact HB.out | apply below_alloc | apply pw_below_drewN | apply below_drew1) | exact HB.out)⟩⟩
                              · rw [if_neg c23] at H
                                have c23b0 : ((bt a0 (ji19)) == 10) = false := beq_eq_false_iff_ne.mpr c23
                                have c23b1 : ((bt a0 (ji19)) != 10) = true := bne_iff_ne.mpr c23
                                have H' := Aside0.mk H
                                clear H
                                have p22 : 0 ≤ ((ji19) : Int) := of_decide_eq_true (by first | (with_reducible assumption) | assumption)
                                have q22 : (ji19) < (a0.size : Int) := of_decide_eq_true (by first | (with_reducible assumption) | assumption)
                                have hx22 := bt_at a0 (ji19)
                                replace p22 := eq_true p22
                                replace q22 := eq_true q22
                                go_wp2
                                go_meet
                                case rel => exact ⟨_, (false), (by first | rfl | (simp; done) | (simp [*]; done)), (by first | exact H' | (simp only [hji19]; exact H')), ⟨by have := HJ4.out; have := HK2.out; first | omega | exact Nat.le_refl _⟩, ⟨by (with_reducible repeat (first | apply Kd.R_alloc | apply Kd.R_drewN | apply Kd.R_drew)); exact HO_11.out⟩, ⟨by repeat (first | (with_reducible first | exact HB.out | apply below_alloc | apply pw_below_drewN | apply below_drew1) | exact HB.out)⟩⟩
                            · rw [if_neg c21] at H
                              exact absurd H (by simp)
                          · rw [if_neg c20] at H
                            exact absurd H (by simp)
                      case rest =>
                        clear HC17
                        try clear c1
                        try clear p1
                        try clear q1
                        try clear hx1
                        try clear hcv1
                        try clear c2
                        try clear p2
                        try clear q2
                        try clear hx2
                        try clear c6
                        try clear c6b0
                        try clear p6
                        try clear c7
                        try clear c7b0
                        try clear c8
                        try clear c8b0
                        try clear c8b1
                        try clear c9
                        try clear c10
                        try clear c10b0
                        try clear c11
                        try clear c11b0
                        try clear p12
                        try clear q12
                        try clear hx12
                        try clear c13
                        try clear c13b0
                        try clear c13b1
                        try clear hcv14
                        try clear c15
                        try clear c15b0
                        try clear c15b1
                        try clear c16
                        try clear c16b0
                        try clear c16b1
                        try clear c18
                        try clear c18b0
                        try clear c18b1
                        try clear c20
                        try clear c20b0
                        try clear c21
                        try clear c21b0
                        try clear p22
                        try clear q22
                        try clear hx22
                        try clear c23
                        try clear c23b0
                        try clear c23b1
                        try clear p12
                        try clear p2
                        try clear p22
                        try clear q12
                        try clear q22
                        obtain ⟨kq, x72_16, rfl, HA, HJ16, HO_11, HB⟩ := hcut
                        cases kq with
                        | zero => exact absurd HA.out (by simp [runnelref17_DocUntil.j2])
                        | succ kj16 =>
                          have H := HA.out
                          clear HA
                          simp only [runnelref17_DocUntil.j2] at H
                          by_cases c24 : x72_16 = true
                          · subst c24
                            have H1 : (some ((⟨#[]⟩ : ByteArray), 0, 6)) = some (r1, r2, r3) := by rw [if_pos rfl] at H; exact H
                            clear H
                            have H := H1
                            clear H1
                            simp only [Option.some.injEq, Prod.mk.injEq] at H
                            obtain ⟨rfl, rfl, rfl⟩ := H
                            go_wp2
                            go_ret3
                            exact ⟨by first | rfl | (simp only [wrap_wrap]; done) | (simp only [wrap_wrap]; rfl) | (simp [errW_none, errW_some] <;> rfl) | (simp [*, errW_none, errW_some] <;> rfl), by repeat (first | (with_reducible first | exact HB.out | apply below_alloc | apply pw_below_drewN | apply below_drew1) | exact HB.out)⟩
                          · replace c24 := Bool.eq_false_iff.mpr c24
                            subst c24
                            have H1 : (if 0 ≤ (wrap64 (x12_2 + 1)) then (if (wrap64 (x12_2 + 1)) < (a0.size : Int) then (if (bt a0 (wrap64 (x12_2 + 1))) = a2 then (if (bt a0 (wrap64 (x12_2 + 1))) = 46 then (if x11_2.length < 140737488355328 then ((some (x11_2 ++ [(bt a0 x12_2)] : List Int)).bind fun y231 => (if y231.length < 140737488355328 then (runnelref17_DocUntil.l0 kj16 a0 a2 a3 (y231 ++ [bt a0 (wrap64 (x12_2 + 1))]) (wrap64 (x12_2 + 2))) else (none))) else (none)) else (if (bt a0 (wrap64 (x12_2 + 1))) = 91 then (if x11_2.length < 140737488355328 then ((some (x11_2 ++ [(bt a0 x12_2)] : List Int)).bind fun y237 => (if y237.length < 140737488355328 then (runnelref17_DocUntil.l0 kj16 a0 a2 a3 (y237 ++ [bt a0 (wrap64 (x12_2 + 1))]) (wrap64 (x12_2 + 2))) else (none))) else (none)) else (if (bt a0 (wrap64 (x12_2 + 1))) = 42 then (if x11_2.length < 140737488355328 then ((some (x11_2 ++ [(bt a0 x12_2)] : List Int)).bind fun y243 => (if y243.length < 140737488355328 then (runnelref17_DocUntil.l0 kj16 a0 a2 a3 (y243 ++ [bt a0 (wrap64 (x12_2 + 1))]) (wrap64 (x12_2 + 2))) else (none))) else (none)) else (if (bt a0 (wrap64 (x12_2 + 1))) = 94 then (if x11_2.length < 140737488355328 then ((some (x11_2 ++ [(bt a0 x12_2)] : List Int)).bind fun y249 => (if y249.length < 140737488355328 then (runnelref17_DocUntil.l0 kj16 a0 a2 a3 (y249 ++ [bt a0 (wrap64 (x12_2 + 1))]) (wrap64 (x12_2 + 2))) else (none))) else (none)) else (if (bt a0 (wrap64 (x12_2 + 1))) = 36 then (if x11_2.length < 140737488355328 then ((some (x11_2 ++ [(bt a0 x12_2)] : List Int)).bind fun y255 => (if y255.length < 140737488355328 then (runnelref17_DocUntil.l0 kj16 a0 a2 a3 (y255 ++ [bt a0 (wrap64 (x12_2 + 1))]) (wrap64 (x12_2 + 2))) else (none))) else (none)) else (if (bt a0 (wrap64 (x12_2 + 1))) = 38 then (if x11_2.length < 140737488355328 then ((some (x11_2 ++ [(bt a0 x12_2)] : List Int)).bind fun y261 => (if y261.length < 140737488355328 then (runnelref17_DocUntil.l0 kj16 a0 a2 a3 (y261 ++ [bt a0 (wrap64 (x12_2 + 1))]) (wrap64 (x12_2 + 2))) else (none))) else (none)) else (if x11_2.length < 140737488355328 then (runnelref17_DocUntil.l0 kj16 a0 a2 a3 (x11_2 ++ [bt a0 (wrap64 (x12_2 + 1))]) (wrap64 (x12_2 + 2))) else (none)))))))) else (if x11_2.length < 140737488355328 then ((some (x11_2 ++ [(bt a0 x12_2)] : List Int)).bind fun y270 => (if y270.length < 140737488355328 then (runnelref17_DocUntil.l0 kj16 a0 a2 a3 (y270 ++ [bt a0 (wrap64 (x12_2 + 1))]) (wrap64 (x12_2 + 2))) else (none))) else (none))) else (none)) else (none)) = some (r1, r2, r3) := by rw [if_neg (show ¬ (false = true) by decide)] at H; exact H
                            clear H
                            have H := H1
                            clear H1
                            obtain ⟨ji25, hji25⟩ : ∃ j_ : Int, (wrap64 (x12_2 + 1)) = j_ := ⟨_, rfl⟩
                            replace H : (if 0 ≤ (ji25) then (if (ji25) < (a0.size : Int) then (if (bt a0 (ji25)) = a2 then (if (bt a0 (ji25)) = 46 then (if x11_2.length < 140737488355328 then ((some (x11_2 ++ [(bt a0 x12_2)] : List Int)).bind fun y231 => (if y231.length < 140737488355328 then (runnelref17_DocUntil.l0 kj16 a0 a2 a3 (y231 ++ [bt a0 (ji25)]) (wrap64 (x12_2 + 2))) else (none))) else (none)) else (if (bt a0 (ji25)) = 91 then (if x11_2.length < 140737488355328 then ((some (x11_2 ++ [(bt a0 x12_2)] : List Int)).bind fun y237 => (if y237.length < 140737488355328 then (runnelref17_DocUntil.l0 kj16 a0 a2 a3 (y237 ++ [bt a0 (ji25)]) (wrap64 (x12_2 + 2))) else (none))) else (none)) else (if (bt a0 (ji25)) = 42 then (if x11_2.length < 140737488355328 then ((some (x11_2 ++ [(bt a0 x12_2)] : List Int)).bind fun y243 => (if y243.length < 140737488355328 then (runnelref17_DocUntil.l0 kj16 a0 a2 a3 (y243 ++ [bt a0 (ji25)]) (wrap64 (x12_2 + 2))) else (none))) else (none)) else (if (bt a0 (ji25)) = 94 then (if x11_2.length < 140737488355328 then ((some (x11_2 ++ [(bt a0 x12_2)] : List Int)).bind fun y249 => (if y249.length < 140737488355328 then (runnelref17_DocUntil.l0 kj16 a0 a2 a3 (y249 ++ [bt a0 (ji25)]) (wrap64 (x12_2 + 2))) else (none))) else (none)) else (if (bt a0 (ji25)) = 36 then (if x11_2.length < 140737488355328 then ((some (x11_2 ++ [(bt a0 x12_2)] : List Int)).bind fun y255 => (if y255.length < 140737488355328 then (runnelref17_DocUntil.l0 kj16 a0 a2 a3 (y255 ++ [bt a0 (ji25)]) (wrap64 (x12_2 + 2))) else (none))) else (none)) else (if (bt a0 (ji25)) = 38 then (if x11_2.length < 140737488355328 then ((some (x11_2 ++ [(bt a0 x12_2)] : List Int)).bind fun y261 => (if y261.length < 140737488355328 then (runnelref17_DocUntil.l0 kj16 a0 a2 a3 (y261 ++ [bt a0 (ji25)]) (wrap64 (x12_2 + 2))) else (none))) else (none)) else (if x11_2.length < 140737488355328 then (runnelref17_DocUntil.l0 kj16 a0 a2 a3 (x11_2 ++ [bt a0 (ji25)]) (wrap64 (x12_2 + 2))) else (none)))))))) else (if x11_2.length < 140737488355328 then ((some (x11_2 ++ [(bt a0 x12_2)] : List Int)).bind fun y270 => (if y270.length < 140737488355328 then (runnelref17_DocUntil.l0 kj16 a0 a2 a3 (y270 ++ [bt a0 (ji25)]) (wrap64 (x12_2 + 2))) else (none))) else (none))) else (none)) else (none)) = some (r1, r2, r3) := by first | (rw [hji25] at H; exact H) | (simp only [hji25] at H ⊢; exact H)
                            have hji25w : (IntKind.i64.wrap (x12_2 + 1)) = ji25 := (i64_w _).trans hji25
                            by_cases c26 : 0 ≤ (ji25)
                            · rw [if_pos c26] at H
                              have c26b0 : decide (0 ≤ (ji25)) = true := decide_eq_true c26
                              clear c26
                              by_cases c27 : (ji25) < (a0.size : Int)
                              · rw [if_pos c27] at H
                                have c27b0 : decide ((ji25) < (a0.size : Int)) = true := decide_eq_true c27
                                clear c27
                                by_cases c29 : (bt a0 (ji25)) = a2
                                · rw [if_pos c29] at H
                                  have c29b0 : ((bt a0 (ji25)) == a2) = true := beq_iff_eq.mpr c29
                                  have c29b1 : ((bt a0 (ji25)) != a2) = false := bne_eq_false_iff_eq.mpr c29
                                  clear c29
                                  by_cases c30 : (bt a0 (ji25)) = 46
                                  · rw [if_pos c30] at H
                                    have c30b0 : ((bt a0 (ji25)) == 46) = true := beq_iff_eq.mpr c30
                                    have c30b1 : ((bt a0 (ji25)) != 46) = false := bne_eq_false_iff_eq.mpr c30
                                    clear c30
                                    by_cases c31 : x11_2.length < 140737488355328
                                    · rw [if_pos c31] at H
                                      have LMc31 := Aside0.mk c31
                                      clear c31
                                      obtain ⟨y231, hy231⟩ : ∃ y_ : List Int, y_ = (x11_2 ++ [(bt a0 x12_2)]) := ⟨_, rfl⟩
                                      replace H : (if y231.length < 140737488355328 then (runnelref17_DocUntil.l0 kj16 a0 a2 a3 (y231 ++ [bt a0 (ji25)]) (wrap64 (x12_2 + 2))) else (none)) = some (r1, r2, r3) := by first | (rw [hy231]; with_reducible exact H) | (have H2_ := (Option.bind_some _ _).symm.trans H; rw [hy231]; with_reducible exact H2_) | (have H2_ := (Option.bind_some _ _).symm.trans H; with_reducible exact H2_) | with_reducible exact H | (rw [hy231]; exact H) | exact H
                                      have Ny231 := Aside0.mk hy231
                                      clear hy231
                                      by_cases c32 : y231.length < 140737488355328
                                      · rw [if_pos c32] at H
                                        have LMc32 := Aside0.mk c32
                                        clear c32
                                        obtain ⟨y234, hy234⟩ : ∃ y_ : List Int, y_ = (y231 ++ [bt a0 (ji25)]) := ⟨_, rfl⟩
                                        replace H : (runnelref17_DocUntil.l0 kj16 a0 a2 a3 y234 (wrap64 (x12_2 + 2))) = some (r1, r2, r3) := by first | (rw [hy234]; with_reducible exact H) | (have H2_ := (Option.bind_some _ _).symm.trans H; rw [hy234]; with_reducible exact H2_) | (have H2_ := (Option.bind_some _ _).symm.trans H; with_reducible exact H2_) | with_reducible exact H | (rw [hy234]; exact H) | exact H
                                        have Ny234 := Aside0.mk hy234
                                        clear hy234
                                        have H' := Aside0.mk H
                                        clear H
                                        have p28 : 0 ≤ ((ji25) : Int) := of_decide_eq_true (by first | (with_reducible assumption) | assumption)
                                        have q28 : (ji25) < (a0.size : Int) := of_decide_eq_true (by first | (with_reducible assumption) | assumption)
                                        have hx28 := bt_at a0 (ji25)
                                        replace p28 := eq_true p28
                                        replace q28 := eq_true q28
                                        go_wp2_with (first | ((with_reducible refine gate_builtin (b := .append) (xs := #[.tmp 105, .tmp 107]) rfl ?_); (try (refine gate_guard (by rfl) ?_; dsimp only)); at_builtin; refine Kd.R_append (Kd.int .u8) (w0 := w) w.heap.size rfl (.tmp 105) (.tmp 107) 39 5 (.int .u8 0) 1 rfl Try.underlying39 info5 rfl (by decide) (by omega) u11 x11_2 (bt a0 x12_2) [.int .u8 (bt a0 x12_2)] (fun _ => True) (fun _ => False) rfl rfl ?aP (fun _ hk => hk.elim) ?aF ?aO ?aB ?aS ?aL ?_; (case aP => exact rfl); (case aB => exact (by repeat (first | (with_reducible first | exact HB.out | apply below_alloc | apply pw_below_drewN | apply below_drew1) | exact HB.out))); (case aF => exact (fun _ _ => trivial)); (case aO => exact (by (with_reducible repeat (first | apply Kd.R_alloc | apply Kd.R_drewN | apply Kd.R_drew)); exact HO_11.out)); (case aS => exact (below_size (by repeat (first | (with_reducible first | exact HB.out | apply below_alloc | apply pw_below_drewN | apply below_drew1) | exact HB.out)))); (case aL => have := LMc31.out; omega); intro v232 w33 ho hb hg hat; rw [← Ny231.out] at ho; have n0_ := Aside0.mk (hb); have n1_ := Aside0.mk (ho); clear HB; clear HO_11; have HB := n0_; have HO233 := n1_; clear n0_ n1_; clear ho hb hg hat) | ((with_reducible refine gate_builtin (b := .append) (xs := #[.tmp 109, .tmp 111]) rfl ?_); (try (refine gate_guard (by rfl) ?_; dsimp only)); at_builtin; refine Kd.R_append (Kd.int .u8) (w0 := w) w.heap.size rfl (.tmp 109) (.tmp 111) 39 5 (.int .u8 0) 1 rfl Try.underlying39 info5 rfl (by decide) (by omega) v232 y231 (bt a0 (ji25)) [.int .u8 (bt a0 (ji25))] (fun _ => True) (fun _ => False) rfl rfl ?aP (fun _ hk => hk.elim) ?aF ?aO ?aB ?aS ?aL ?_; (case aP => exact rfl); (case aB => exact (by repeat (first | (with_reducible first | exact HB.out | apply below_alloc | apply pw_below_drewN | apply below_drew1) | exact HB.out))); (case aF => exact (fun _ _ => trivial)); (case aO => exact (by (with_reducible repeat (first | apply Kd.R_alloc | apply Kd.R_drewN | apply Kd.R_drew)); exact HO233.out)); (case aS => exact (below_size (by repeat (first | (with_reducible first | exact HB.out | apply below_alloc | apply pw_below_drewN | apply below_drew1) | exact HB.out)))); (case aL => have := LMc32.out; omega); intro v235 w34 ho hb hg hat; rw [← Ny234.out] at ho; have n0_ := Aside0.mk (hb); have n1_ := Aside0.mk (ho); clear HB; clear HO233; have HB := n0_; have HO236 := n1_; clear n0_ n1_; clear ho hb hg hat))
                                        go_roundg kj16
                                        case measure => have := HJ4.out; have := HK2.out; have := HJ16.out; omega
                                        case rel => exact ⟨(y234), (wrap64 (x12_2 + 2)), (by first | rfl | (simp; done) | (simp [*]; done)), (by first | exact H' | (simp only [hji25]; exact H')), ⟨by have := HJ4.out; have := HK2.out; have := HJ16.out; omega⟩, ⟨by (with_reducible repeat (first | apply Kd.R_alloc | apply Kd.R_drewN | apply Kd.R_drew)); exact HO236.out⟩, ⟨by repeat (first | (with_reducible first | exact HB.out | apply below_alloc | apply pw_below_drewN | apply below_drew1) | exact HB.out)⟩⟩
                                      · rw [if_neg c32] at H
                                        exact absurd H (by simp)
                                    · rw [if_neg c31] at H
                                      exact absurd H (by simp)
                                  · rw [if_neg c30] at H
                                    have c30b0 : ((bt a0 (ji25)) == 46) = false := beq_eq_false_iff_ne.mpr c30
                                    have c30b1 : ((bt a0 (ji25)) != 46) = true := bne_iff_ne.mpr c30
                                    by_cases c35 : (bt a0 (ji25)) = 91
                                    · rw [if_pos c35] at H
                                      have c35b0 : ((bt a0 (ji25)) == 91) = true := beq_iff_eq.mpr c35
                                      have c35b1 : ((bt a0 (ji25)) != 91) = false := bne_eq_false_iff_eq.mpr c35
                                      clear c35
                                      by_cases c36 : x11_2.length < 140737488355328
                                      · rw [if_pos c36] at H
                                        have LMc36 := Aside0.mk c36
                                        clear c36
                                        obtain ⟨y237, hy237⟩ : ∃ y_ : List Int, y_ = (x11_2 ++ [(bt a0 x12_2)]) := ⟨_, rfl⟩
                                        replace H : (if y237.length < 140737488355328 then (runnelref17_DocUntil.l0 kj16 a0 a2 a3 (y237 ++ [bt a0 (ji25)]) (wrap64 (x12_2 + 2))) else (none)) = some (r1, r2, r3) := by first | (rw [hy237]; with_reducible exact H) | (have H2_ := (Option.bind_some _ _).symm.trans H; rw [hy237]; with_reducible exact H2_) | (have H2_ := (Option.bind_some _ _).symm.trans H; with_reducible exact H2_) | with_reducible exact H | (rw [hy237]; exact H) | exact H
                                        have Ny237 := Aside0.mk hy237
                                        clear hy237
                                        by_cases c37 : y237.length < 140737488355328
                                        · rw [if_pos c37] at H
                                          have LMc37 := Aside0.mk c37
                                          clear c37
                                          obtain ⟨y240, hy240⟩ : ∃ y_ : List Int, y_ = (y237 ++ [bt a0 (ji25)]) := ⟨_, rfl⟩
                                          replace H : (runnelref17_DocUntil.l0 kj16 a0 a2 a3 y240 (wrap64 (x12_2 + 2))) = some (r1, r2, r3) := by first | (rw [hy240]; with_reducible exact H) | (have H2_ := (Option.bind_some _ _).symm.trans H; rw [hy240]; with_reducible exact H2_) | (have H2_ := (Option.bind_some _ _).symm.trans H; with_reducible exact H2_) | with_reducible exact H | (rw [hy240]; exact H) | exact H
                                          have Ny240 := Aside0.mk hy240
                                          clear hy240
                                          have H' := Aside0.mk H
                                          clear H
                                          have p28 : 0 ≤ ((ji25) : Int) := of_decide_eq_true (by first | (with_reducible assumption) | assumption)
                                          have q28 : (ji25) < (a0.size : Int) := of_decide_eq_true (by first | (with_reducible assumption) | assumption)
                                          have hx28 := bt_at a0 (ji25)
                                          replace p28 := eq_true p28
                                          replace q28 := eq_true q28
                                          go_wp2_with (first | ((with_reducible refine gate_builtin (b := .append) (xs := #[.tmp 105, .tmp 107]) rfl ?_); (try (refine gate_guard (by rfl) ?_; dsimp only)); at_builtin; refine Kd.R_append (Kd.int .u8) (w0 := w) w.heap.size rfl (.tmp 105) (.tmp 107) 39 5 (.int .u8 0) 1 rfl Try.underlying39 info5 rfl (by decide) (by omega) u11 x11_2 (bt a0 x12_2) [.int .u8 (bt a0 x12_2)] (fun _ => True) (fun _ => False) rfl rfl ?aP (fun _ hk => hk.elim) ?aF ?aO ?aB ?aS ?aL ?_; (case aP => exact rfl); (case aB => exact (by repeat (first | (with_reducible first | exact HB.out | apply below_alloc | apply pw_below_drewN | apply below_drew1) | exact HB.out))); (case aF => exact (fun _ _ => trivial)); (case aO => exact (by (with_reducible repeat (first | apply Kd.R_alloc | apply Kd.R_drewN | apply Kd.R_drew)); exact HO_11.out)); (case aS => exact (below_size (by repeat (first | (with_reducible first | exact HB.out | apply below_alloc | apply pw_below_drewN | apply below_drew1) | exact HB.out)))); (case aL => have := LMc36.out; omega); intro v238 w38 ho hb hg hat; rw [← Ny237.out] at ho; have n0_ := Aside0.mk (hb); have n1_ := Aside0.mk (ho); clear HB; clear HO_11; have HB := n0_; have HO239 := n1_; clear n0_ n1_; clear ho hb hg hat) | ((with_reducible refine gate_builtin (b := .append) (xs := #[.tmp 109, .tmp 111]) rfl ?_); (try (refine gate_guard (by rfl) ?_; dsimp only)); at_builtin; refine Kd.R_append (Kd.int .u8) (w0 := w) w.heap.size rfl (.tmp 109) (.tmp 111) 39 5 (.int .u8 0) 1 rfl Try.underlying39 info5 rfl (by decide) (by omega) v238 y237 (bt a0 (ji25)) [.int .u8 (bt a0 (ji25))] (fun _ => True) (fun _ => False) rfl rfl ?aP (fun _ hk => hk.elim) ?aF ?aO ?aB ?aS ?aL ?_; (case aP => exact rfl); (case aB => exact (by repeat (first | (with_reducible first | exact HB.out | apply below_alloc | apply pw_below_drewN | apply below_drew1) | exact HB.out))); (case aF => exact (fun _ _ => trivial)); (case aO => exact (by (with_reducible repeat (first | apply Kd.R_alloc | apply Kd.R_drewN | apply Kd.R_drew)); exact HO239.out)); (case aS => exact (below_size (by repeat (first | (with_reducible first | exact HB.out | apply below_alloc | apply pw_below_drewN | apply below_drew1) | exact HB.out)))); (case aL => have := LMc37.out; omega); intro v241 w39 ho hb hg hat; rw [← Ny240.out] at ho; have n0_ := Aside0.mk (hb); have n1_ := Aside0.mk (ho); clear HB; clear HO239; have HB := n0_; have HO242 := n1_; clear n0_ n1_; clear ho hb hg hat))
                                          go_roundg kj16
                                          case measure => have := HJ4.out; have := HK2.out; have := HJ16.out; omega
                                          case rel => exact ⟨(y240), (wrap64 (x12_2 + 2)), (by first | rfl | (simp; done) | (simp [*]; done)), (by first | exact H' | (simp only [hji25]; exact H')), ⟨by have := HJ4.out; have := HK2.out; have := HJ16.out; omega⟩, ⟨by (with_reducible repeat (first | apply Kd.R_alloc | apply Kd.R_drewN | apply Kd.R_drew)); exact HO242.out⟩, ⟨by repeat (first | (with_reducible first | exact HB.out | apply below_alloc | apply pw_below_drewN | apply below_drew1) | exact HB.out)⟩⟩
                                        · rw [if_neg c37] at H
                                          exact absurd H (by simp)
                                      · rw [if_neg c36] at H
                                        exact absurd H (by simp)
                                    · rw [if_neg c35] at H
                                      have c35b0 : ((bt a0 (ji25)) == 91) = false := beq_eq_false_iff_ne.mpr c35
                                      have c35b1 : ((bt a0 (ji25)) != 91) = true := bne_iff_ne.mpr c35
                                      by_cases c40 : (bt a0 (ji25)) = 42
                                      · rw [if_pos c40] at H
                                        have c40b0 : ((bt a0 (ji25)) == 42) = true := beq_iff_eq.mpr c40
                                        have c40b1 : ((bt a0 (ji25)) != 42) = false := bne_eq_false_iff_eq.mpr c40
                                        clear c40
                                        by_cases c41 : x11_2.length < 140737488355328
                                        · rw [if_pos c41] at H
                                          have LMc41 := Aside0.mk c41
                                          clear c41
                                          obtain ⟨y243, hy243⟩ : ∃ y_ : List Int, y_ = (x11_2 ++ [(bt a0 x12_2)]) := ⟨_, rfl⟩
                                          replace H : (if y243.length < 140737488355328 then (runnelref17_DocUntil.l0 kj16 a0 a2 a3 (y243 ++ [bt a0 (ji25)]) (wrap64 (x12_2 + 2))) else (none)) = some (r1, r2, r3) := by first | (rw [hy243]; with_reducible exact H) | (have H2_ := (Option.bind_some _ _).symm.trans H; rw [hy243]; with_reducible exact H2_) | (have H2_ := (Option.bind_some _ _).symm.trans H; with_reducible exact H2_) | with_reducible exact H | (rw [hy243]; exact H) | exact H
                                          have Ny243 := Aside0.mk hy243
                                          clear hy243
                                          by_cases c42 : y243.length < 140737488355328
                                          · rw [if_pos c42] at H
                                            have LMc42 := Aside0.mk c42
                                            clear c42
                                            obtain ⟨y246, hy246⟩ : ∃ y_ : List Int, y_ = (y243 ++ [bt a0 (ji25)]) := ⟨_, rfl⟩
                                            replace H : (runnelref17_DocUntil.l0 kj16 a0 a2 a3 y246 (wrap64 (x12_2 + 2))) = some (r1, r2, r3) := by first | (rw [hy246]; with_reducible exact H) | (have H2_ := (Option.bind_some _ _).symm.trans H; rw [hy246]; with_reducible exact H2_) | (have H2_ := (Option.bind_some _ _).symm.trans H; with_reducible exact H2_) | with_reducible exact H | (rw [hy246]; exact H) | exact H
                                            have Ny246 := Aside0.mk hy246
                                            clear hy246
                                            have H' := Aside0.mk H
                                            clear H
                                            have p28 : 0 ≤ ((ji25) : Int) := of_decide_eq_true (by first | (with_reducible assumption) | assumption)
                                            have q28 : (ji25) < (a0.size : Int) := of_decide_eq_true (by first | (with_reducible assumption) | assumption)
                                            have hx28 := bt_at a0 (ji25)
                                            replace p28 := eq_true p28
                                            replace q28 := eq_true q28
                                            go_wp2_with (first | ((with_reducible refine gate_builtin (b := .append) (xs := #[.tmp 105, .tmp 107]) rfl ?_); (try (refine gate_guard (by rfl) ?_; dsimp only)); at_builtin; refine Kd.R_append (Kd.int .u8) (w0 := w) w.heap.size rfl (.tmp 105) (.tmp 107) 39 5 (.int .u8 0) 1 rfl Try.underlying39 info5 rfl (by decide) (by omega) u11 x11_2 (bt a0 x12_2) [.int .u8 (bt a0 x12_2)] (fun _ => True) (fun _ => False) rfl rfl ?aP (fun _ hk => hk.elim) ?aF ?aO ?aB ?aS ?aL ?_; (case aP => exact rfl); (case aB => exact (by repeat (first | (with_reducible first | exact HB.out | apply below_alloc | apply pw_below_drewN | apply below_drew1) | exact HB.out))); (case aF => exact (fun _ _ => trivial)); (case aO => exact (by (with_reducible repeat (first | apply Kd.R_alloc | apply Kd.R_drewN | apply Kd.R_drew)); exact HO_11.out)); (case aS => exact (below_size (by repeat (first | (with_reducible first | exact HB.out | apply below_alloc | apply pw_below_drewN | apply below_drew1) | exact HB.out)))); (case aL => have := LMc41.out; omega); intro v244 w43 ho hb hg hat; rw [← Ny243.out] at ho; have n0_ := Aside0.mk (hb); have n1_ := Aside0.mk (ho); clear HB; clear HO_11; have HB := n0_; have HO245 := n1_; clear n0_ n1_; clear ho hb hg hat) | ((with_reducible refine gate_builtin (b := .append) (xs := #[.tmp 109, .tmp 111]) rfl ?_); (try (refine gate_guard (by rfl) ?_; dsimp only)); at_builtin; refine Kd.R_append (Kd.int .u8) (w0 := w) w.heap.size rfl (.tmp 109) (.tmp 111) 39 5 (.int .u8 0) 1 rfl Try.underlying39 info5 rfl (by decide) (by omega) v244 y243 (bt a0 (ji25)) [.int .u8 (bt a0 (ji25))] (fun _ => True) (fun _ => False) rfl rfl ?aP (fun _ hk => hk.elim) ?aF ?aO ?aB ?aS ?aL ?_; (case aP => exact rfl); (case aB => exact (by repeat (first | (with_reducible first | exact HB.out | apply below_alloc | apply pw_below_drewN | apply below_drew1) | exact HB.out))); (case aF => exact (fun _ _ => trivial)); (case aO => exact (by (with_reducible repeat (first | apply Kd.R_alloc | apply Kd.R_drewN | apply Kd.R_drew)); exact HO245.out)); (case aS => exact (below_size (by repeat (first | (with_reducible first | exact HB.out | apply below_alloc | apply pw_below_drewN | apply below_drew1) | exact HB.out)))); (case aL => have := LMc42.out; omega); intro v247 w44 ho hb hg hat; rw [← Ny246.out] at ho; have n0_ := Aside0.mk (hb); have n1_ := Aside0.mk (ho); clear HB; clear HO245; have HB := n0_; have HO248 := n1_; clear n0_ n1_; clear ho hb hg hat))
                                            go_roundg kj16
                                            case measure => have := HJ4.out; have := HK2.out; have := HJ16.out; omega
                                            case rel => exact ⟨(y246), (wrap64 (x12_2 + 2)), (by first | rfl | (simp; done) | (simp [*]; done)), (by first | exact H' | (simp only [hji25]; exact H')), ⟨by have := HJ4.out; have := HK2.out; have := HJ16.out; omega⟩, ⟨by (with_reducible repeat (first | apply Kd.R_alloc | apply Kd.R_drewN | apply Kd.R_drew)); exact HO248.out⟩, ⟨by repeat (first | (with_reducible first | exact HB.out | apply below_alloc | apply pw_below_drewN | apply below_drew1) | exact HB.out)⟩⟩
                                          · rw [if_neg c42] at H
                                            exact absurd H (by simp)
                                        · rw [if_neg c41] at H
                                          exact absurd H (by simp)
                                      · rw [if_neg c40] at H
                                        have c40b0 : ((bt a0 (ji25)) == 42) = false := beq_eq_false_iff_ne.mpr c40
                                        have c40b1 : ((bt a0 (ji25)) != 42) = true := bne_iff_ne.mpr c40
                                        by_cases c45 : (bt a0 (ji25)) = 94
                                        · rw [if_pos c45] at H
                                          have c45b0 : ((bt a0 (ji25)) == 94) = true := beq_iff_eq.mpr c45
                                          have c45b1 : ((bt a0 (ji25)) != 94) = false := bne_eq_false_iff_eq.mpr c45
                                          clear c45
                                          by_cases c46 : x11_2.length < 140737488355328
                                          · rw [if_pos c46] at H
                                            have LMc46 := Aside0.mk c46
                                            clear c46
                                            obtain ⟨y249, hy249⟩ : ∃ y_ : List Int, y_ = (x11_2 ++ [(bt a0 x12_2)]) := ⟨_, rfl⟩
                                            replace H : (if y249.length < 140737488355328 then (runnelref17_DocUntil.l0 kj16 a0 a2 a3 (y249 ++ [bt a0 (ji25)]) (wrap64 (x12_2 + 2))) else (none)) = some (r1, r2, r3) := by first | (rw [hy249]; with_reducible exact H) | (have H2_ := (Option.bind_some _ _).symm.trans H; rw [hy249]; with_reducible exact H2_) | (have H2_ := (Option.bind_some _ _).symm.trans H; with_reducible exact H2_) | with_reducible exact H | (rw [hy249]; exact H) | exact H
                                            have Ny249 := Aside0.mk hy249
                                            clear hy249
                                            by_cases c47 : y249.length < 140737488355328
                                            · rw [if_pos c47] at H
                                              have LMc47 := Aside0.mk c47
                                              clear c47
                                              obtain ⟨y252, hy252⟩ : ∃ y_ : List Int, y_ = (y249 ++ [bt a0 (ji25)]) := ⟨_, rfl⟩
                                              replace H : (runnelref17_DocUntil.l0 kj16 a0 a2 a3 y252 (wrap64 (x12_2 + 2))) = some (r1, r2, r3) := by first | (rw [hy252]; with_reducible exact H) | (have H2_ := (Option.bind_some _ _).symm.trans H; rw [hy252]; with_reducible exact H2_) | (have H2_ := (Option.bind_some _ _).symm.trans H; with_reducible exact H2_) | with_reducible exact H | (rw [hy252]; exact H) | exact H
                                              have Ny252 := Aside0.mk hy252
                                              clear hy252
                                              have H' := Aside0.mk H
                                              clear H
                                              have p28 : 0 ≤ ((ji25) : Int) := of_decide_eq_true (by first | (with_reducible assumption) | assumption)
                                              have q28 : (ji25) < (a0.size : Int) := of_decide_eq_true (by first | (with_reducible assumption) | assumption)
                                              have hx28 := bt_at a0 (ji25)
                                              replace p28 := eq_true p28
                                              replace q28 := eq_true q28
                                              go_wp2_with (first | ((with_reducible refine gate_builtin (b := .append) (xs := #[.tmp 105, .tmp 107]) rfl ?_); (try (refine gate_guard (by rfl) ?_; dsimp only)); at_builtin; refine Kd.R_append (Kd.int .u8) (w0 := w) w.heap.size rfl (.tmp 105) (.tmp 107) 39 5 (.int .u8 0) 1 rfl Try.underlying39 info5 rfl (by decide) (by omega) u11 x11_2 (bt a0 x12_2) [.int .u8 (bt a0 x12_2)] (fun _ => True) (fun _ => False) rfl rfl ?aP (fun _ hk => hk.elim) ?aF ?aO ?aB ?aS ?aL ?_; (case aP => exact rfl); (case aB => exact (by repeat (first | (with_reducible first | exact HB.out | apply below_alloc | apply pw_below_drewN | apply below_drew1) | exact HB.out))); (case aF => exact (fun _ _ => trivial)); (case aO => exact (by (with_reducible repeat (first | apply Kd.R_alloc | apply Kd.R_drewN | apply Kd.R_drew)); exact HO_11.out)); (case aS => exact (below_size (by repeat (first | (with_reducible first | exact HB.out | apply below_alloc | apply pw_below_drewN | apply below_drew1) | exact HB.out)))); (case aL => have := LMc46.out; omega); intro v250 w48 ho hb hg hat; rw [← Ny249.out] at ho; have n0_ := Aside0.mk (hb); have n1_ := Aside0.mk (ho); clear HB; clear HO_11; have HB := n0_; have HO251 := n1_; clear n0_ n1_; clear ho hb hg hat) | ((with_reducible refine gate_builtin (b := .append) (xs := #[.tmp 109, .tmp 111]) rfl ?_); (try (refine gate_guard (by rfl) ?_; dsimp only)); at_builtin; refine Kd.R_append (Kd.int .u8) (w0 := w) w.heap.size rfl (.tmp 109) (.tmp 111) 39 5 (.int .u8 0) 1 rfl Try.underlying39 info5 rfl (by decide) (by omega) v250 y249 (bt a0 (ji25)) [.int .u8 (bt a0 (ji25))] (fun _ => True) (fun _ => False) rfl rfl ?aP (fun _ hk => hk.elim) ?aF ?aO ?aB ?aS ?aL ?_; (case aP => exact rfl); (case aB => exact (by repeat (first | (with_reducible first | exact HB.out | apply below_alloc | apply pw_below_drewN | apply below_drew1) | exact HB.out))); (case aF => exact (fun _ _ => trivial)); (case aO => exact (by (with_reducible repeat (first | apply Kd.R_alloc | apply Kd.R_drewN | apply Kd.R_drew)); exact HO251.out)); (case aS => exact (below_size (by repeat (first | (with_reducible first | exact HB.out | apply below_alloc | apply pw_below_drewN | apply below_drew1) | exact HB.out)))); (case aL => have := LMc47.out; omega); intro v253 w49 ho hb hg hat; rw [← Ny252.out] at ho; have n0_ := Aside0.mk (hb); have n1_ := Aside0.mk (ho); clear HB; clear HO251; have HB := n0_; have HO254 := n1_; clear n0_ n1_; clear ho hb hg hat))
                                              go_roundg kj16
                                              case measure => have := HJ4.out; have := HK2.out; have := HJ16.out; omega
                                              case rel => exact ⟨(y252), (wrap64 (x12_2 + 2)), (by first | rfl | (simp; done) | (simp [*]; done)), (by first | exact H' | (simp only [hji25]; exact H')), ⟨by have := HJ4.out; have := HK2.out; have := HJ16.out; omega⟩, ⟨by (with_reducible repeat (first | apply Kd.R_alloc | apply Kd.R_drewN | apply Kd.R_drew)); exact HO254.out⟩, ⟨by repeat (first | (with_reducible first | exact HB.out | apply below_alloc | apply pw_below_drewN | apply below_drew1) | exact HB.out)⟩⟩
                                            · rw [if_neg c47] at H
                                              exact absurd H (by simp)
                                          · rw [if_neg c46] at H
                                            exact absurd H (by simp)
                                        · rw [if_neg c45] at H
                                          have c45b0 : ((bt a0 (ji25)) == 94) = false := beq_eq_false_iff_ne.mpr c45
                                          have c45b1 : ((bt a0 (ji25)) != 94) = true := bne_iff_ne.mpr c45
                                          by_cases c50 : (bt a0 (ji25)) = 36
                                          · rw [if_pos c50] at H
                                            have c50b0 : ((bt a0 (ji25)) == 36) = true := beq_iff_eq.mpr c50
                                            have c50b1 : ((bt a0 (ji25)) != 36) = false := bne_eq_false_iff_eq.mpr c50
                                            clear c50
                                            by_cases c51 : x11_2.length < 140737488355328
                                            · rw [if_pos c51] at H
                                              have LMc51 := Aside0.mk c51
                                              clear c51
                                              obtain ⟨y255, hy255⟩ : ∃ y_ : List Int, y_ = (x11_2 ++ [(bt a0 x12_2)]) := ⟨_, rfl⟩
                                              replace H : (if y255.length < 140737488355328 then (runnelref17_DocUntil.l0 kj16 a0 a2 a3 (y255 ++ [bt a0 (ji25)]) (wrap64 (x12_2 + 2))) else (none)) = some (r1, r2, r3) := by first | (rw [hy255]; with_reducible exact H) | (have H2_ := (Option.bind_some _ _).symm.trans H; rw [hy255]; with_reducible exact H2_) | (have H2_ := (Option.bind_some _ _).symm.trans H; with_reducible exact H2_) | with_reducible exact H | (rw [hy255]; exact H) | exact H
                                              have Ny255 := Aside0.mk hy255
                                              clear hy255
                                              by_cases c52 : y255.length < 140737488355328
                                              · rw [if_pos c52] at H
                                                have LMc52 := Aside0.mk c52
                                                clear c52
                                                obtain ⟨y258, hy258⟩ : ∃ y_ : List Int, y_ = (y255 ++ [bt a0 (ji25)]) := ⟨_, rfl⟩
                                                replace H : (runnelref17_DocUntil.l0 kj16 a0 a2 a3 y258 (wrap64 (x12_2 + 2))) = some (r1, r2, r3) := by first | (rw [hy258]; with_reducible exact H) | (have H2_ := (Option.bind_some _ _).symm.trans H; rw [hy258]; with_reducible exact H2_) | (have H2_ := (Option.bind_some _ _).symm.trans H; with_reducible exact H2_) | with_reducible exact H | (rw [hy258]; exact H) | exact H
                                                have Ny258 := Aside0.mk hy258
                                                clear hy258
                                                have H' := Aside0.mk H
                                                clear H
                                                have p28 : 0 ≤ ((ji25) : Int) := of_decide_eq_true (by first | (with_reducible assumption) | assumption)
                                                have q28 : (ji25) < (a0.size : Int) := of_decide_eq_true (by first | (with_reducible assumption) | assumption)
                                                have hx28 := bt_at a0 (ji25)
                                                replace p28 := eq_true p28
                                                replace q28 := eq_true q28
                                                go_wp2_with (first | ((with_reducible refine gate_builtin (b := .append) (xs := #[.tmp 105, .tmp 107]) rfl ?_); (try (refine gate_guard (by rfl) ?_; dsimp only)); at_builtin; refine Kd.R_append (Kd.int .u8) (w0 := w) w.heap.size rfl (.tmp 105) (.tmp 107) 39 5 (.int .u8 0) 1 rfl Try.underlying39 info5 rfl (by decide) (by omega) u11 x11_2 (bt a0 x12_2) [.int .u8 (bt a0 x12_2)] (fun _ => True) (fun _ => False) rfl rfl ?aP (fun _ hk => hk.elim) ?aF ?aO ?aB ?aS ?aL ?_; (case aP => exact rfl); (case aB => exact (by repeat (first | (with_reducible first | exact HB.out | apply below_alloc | apply pw_below_drewN | apply below_drew1) | exact HB.out))); (case aF => exact (fun _ _ => trivial)); (case aO => exact (by (with_reducible repeat (first | apply Kd.R_alloc | apply Kd.R_drewN | apply Kd.R_drew)); exact HO_11.out)); (case aS => exact (below_size (by repeat (first | (with_reducible first | exact HB.out | apply below_alloc | apply pw_below_drewN | apply below_drew1) | exact HB.out)))); (case aL => have := LMc51.out; omega); intro v256 w53 ho hb hg hat; rw [← Ny255.out] at ho; have n0_ := Aside0.mk (hb); have n1_ := Aside0.mk (ho); clear HB; clear HO_11; have HB := n0_; have HO257 := n1_; clear n0_ n1_; clear ho hb hg hat) | ((with_reducible refine gate_builtin (b := .append) (xs := #[.tmp 109, .tmp 111]) rfl ?_); (try (refine gate_guard (by rfl) ?_; dsimp only)); at_builtin; refine Kd.R_append (Kd.int .u8) (w0 := w) w.heap.size rfl (.tmp 109) (.tmp 111) 39 5 (.int .u8 0) 1 rfl Try.underlying39 info5 rfl (by decide) (by omega) v256 y255 (bt a0 (ji25)) [.int .u8 (bt a0 (ji25))] (fun _ => True) (fun _ => False) rfl rfl ?aP (fun _ hk => hk.elim) ?aF ?aO ?aB ?aS ?aL ?_; (case aP => exact rfl); (case aB => exact (by repeat (first | (with_reducible first | exact HB.out | apply below_alloc | apply pw_below_drewN | apply below_drew1) | exact HB.out))); (case aF => exact (fun _ _ => trivial)); (case aO => exact (by (with_reducible repeat (first | apply Kd.R_alloc | apply Kd.R_drewN | apply Kd.R_drew)); exact HO257.out)); (case aS => exact (below_size (by repeat (first | (with_reducible first | exact HB.out | apply below_alloc | apply pw_below_drewN | apply below_drew1) | exact HB.out)))); (case aL => have := LMc52.out; omega); intro v259 w54 ho hb hg hat; rw [← Ny258.out] at ho; have n0_ := Aside0.mk (hb); have n1_ := Aside0.mk (ho); clear HB; clear HO257; have HB := n0_; have HO260 := n1_; clear n0_ n1_; clear ho hb hg hat))
                                                go_roundg kj16
                                                case measure => have := HJ4.out; have := HK2.out; have := HJ16.out; omega
                                                case rel => exact ⟨(y258), (wrap64 (x12_2 + 2)), (by first | rfl | (simp; done) | (simp [*]; done)), (by first | exact H' | (simp only [hji25]; exact H')), ⟨by have := HJ4.out; have := HK2.out; have := HJ16.out; omega⟩, ⟨by (with_reducible repeat (first | apply Kd.R_alloc | apply Kd.R_drewN | apply Kd.R_drew)); exact HO260.out⟩, ⟨by repeat (first | (with_reducible first | exact HB.out | apply below_alloc | apply pw_below_drewN | apply below_drew1) | exact HB.out)⟩⟩
                                              · rw [if_neg c52] at H
                                                exact absurd H (by simp)
                                            · rw [if_neg c51] at H
                                              exact absurd H (by simp)
                                          · rw [if_neg c50] at H
                                            have c50b0 : ((bt a0 (ji25)) == 36) = false := beq_eq_false_iff_ne.mpr c50
                                            have c50b1 : ((bt a0 (ji25)) != 36) = true := bne_iff_ne.mpr c50
                                            by_cases c55 : (bt a0 (ji25)) = 38
                                            · rw [if_pos c55] at H
                                              have c55b0 : ((bt a0 (ji25)) == 38) = true := beq_iff_eq.mpr c55
                                              have c55b1 : ((bt a0 (ji25)) != 38) = false := bne_eq_false_iff_eq.mpr c55
                                              clear c55
                                              by_cases c56 : x11_2.length < 140737488355328
                                              · rw [if_pos c56] at H
                                                have LMc56 := Aside0.mk c56
                                                clear c56
                                                obtain ⟨y261, hy261⟩ : ∃ y_ : List Int, y_ = (x11_2 ++ [(bt a0 x12_2)]) := ⟨_, rfl⟩
                                                replace H : (if y261.length < 140737488355328 then (runnelref17_DocUntil.l0 kj16 a0 a2 a3 (y261 ++ [bt a0 (ji25)]) (wrap64 (x12_2 + 2))) else (none)) = some (r1, r2, r3) := by first | (rw [hy261]; with_reducible exact H) | (have H2_ := (Option.bind_some _ _).symm.trans H; rw [hy261]; with_reducible exact H2_) | (have H2_ := (Option.bind_some _ _).symm.trans H; with_reducible exact H2_) | with_reducible exact H | (rw [hy261]; exact H) | exact H
                                                have Ny261 := Aside0.mk hy261
                                                clear hy261
                                                by_cases c57 : y261.length < 140737488355328
                                                · rw [if_pos c57] at H
                                                  have LMc57 := Aside0.mk c57
                                                  clear c57
                                                  obtain ⟨y264, hy264⟩ : ∃ y_ : List Int, y_ = (y261 ++ [bt a0 (ji25)]) := ⟨_, rfl⟩
                                                  replace H : (runnelref17_DocUntil.l0 kj16 a0 a2 a3 y264 (wrap64 (x12_2 + 2))) = some (r1, r2, r3) := by first | (rw [hy264]; with_reducible exact H) | (have H2_ := (Option.bind_some _ _).symm.trans H; rw [hy264]; with_reducible exact H2_) | (have H2_ := (Option.bind_some _ _).symm.trans H; with_reducible exact H2_) | with_reducible exact H | (rw [hy264]; exact H) | exact H
                                                  have Ny264 := Aside0.mk hy264
                                                  clear hy264
                                                  have H' := Aside0.mk H
                                                  clear H
                                                  have p28 : 0 ≤ ((ji25) : Int) := of_decide_eq_true (by first | (with_reducible assumption) | assumption)
                                                  have q28 : (ji25) < (a0.size : Int) := of_decide_eq_true (by first | (with_reducible assumption) | assumption)
                                                  have hx28 := bt_at a0 (ji25)
                                                  replace p28 := eq_true p28
                                                  replace q28 := eq_true q28
                                                  go_wp2_with (first | ((with_reducible refine gate_builtin (b := .append) (xs := #[.tmp 105, .tmp 107]) rfl ?_); (try (refine gate_guard (by rfl) ?_; dsimp only)); at_builtin; refine Kd.R_append (Kd.int .u8) (w0 := w) w.heap.size rfl (.tmp 105) (.tmp 107) 39 5 (.int .u8 0) 1 rfl Try.underlying39 info5 rfl (by decide) (by omega) u11 x11_2 (bt a0 x12_2) [.int .u8 (bt a0 x12_2)] (fun _ => True) (fun _ => False) rfl rfl ?aP (fun _ hk => hk.elim) ?aF ?aO ?aB ?aS ?aL ?_; (case aP => exact rfl); (case aB => exact (by repeat (first | (with_reducible first | exact HB.out | apply below_alloc | apply pw_below_drewN | apply below_drew1) | exact HB.out))); (case aF => exact (fun _ _ => trivial)); (case aO => exact (by (with_reducible repeat (first | apply Kd.R_alloc | apply Kd.R_drewN | apply Kd.R_drew)); exact HO_11.out)); (case aS => exact (below_size (by repeat (first | (with_reducible first | exact HB.out | apply below_alloc | apply pw_below_drewN | apply below_drew1) | exact HB.out)))); (case aL => have := LMc56.out; omega); intro v262 w58 ho hb hg hat; rw [← Ny261.out] at ho; have n0_ := Aside0.mk (hb); have n1_ := Aside0.mk (ho); clear HB; clear HO_11; have HB := n0_; have HO263 := n1_; clear n0_ n1_; clear ho hb hg hat) | ((with_reducible refine gate_builtin (b := .append) (xs := #[.tmp 109, .tmp 111]) rfl ?_); (try (refine gate_guard (by rfl) ?_; dsimp only)); at_builtin; refine Kd.R_append (Kd.int .u8) (w0 := w) w.heap.size rfl (.tmp 109) (.tmp 111) 39 5 (.int .u8 0) 1 rfl Try.underlying39 info5 rfl (by decide) (by omega) v262 y261 (bt a0 (ji25)) [.int .u8 (bt a0 (ji25))] (fun _ => True) (fun _ => False) rfl rfl ?aP (fun _ hk => hk.elim) ?aF ?aO ?aB ?aS ?aL ?_; (case aP => exact rfl); (case aB => exact (by repeat (first | (with_reducible first | exact HB.out | apply below_alloc | apply pw_below_drewN | apply below_drew1) | exact HB.out))); (case aF => exact (fun _ _ => trivial)); (case aO => exact (by (with_reducible repeat (first | apply Kd.R_alloc | apply Kd.R_drewN | apply Kd.R_drew)); exact HO263.out)); (case aS => exact (below_size (by repeat (first | (with_reducible first | exact HB.out | apply below_alloc | apply pw_below_drewN | apply below_drew1) | exact HB.out)))); (case aL => have := LMc57.out; omega); intro v265 w59 ho hb hg hat; rw [← Ny264.out] at ho; have n0_ := Aside0.mk (hb); have n1_ := Aside0.mk (ho); clear HB; clear HO263; have HB := n0_; have HO266 := n1_; clear n0_ n1_; clear ho hb hg hat))
                                                  go_roundg kj16
                                                  case measure => have := HJ4.out; have := HK2.out; have := HJ16.out; omega
                                                  case rel => exact ⟨(y264), (wrap64 (x12_2 + 2)), (by first | rfl | (simp; done) | (simp [*]; done)), (by first | exact H' | (simp only [hji25]; exact H')), ⟨by have := HJ4.out; have := HK2.out; have := HJ16.out; omega⟩, ⟨by (with_reducible repeat (first | apply Kd.R_alloc | apply Kd.R_drewN | apply Kd.R_drew)); exact HO266.out⟩, ⟨by repeat (first | (with_reducible first | exact HB.out | apply below_alloc | apply pw_below_drewN | apply below_drew1) | exact HB.out)⟩⟩
                                                · rw [if_neg c57] at H
                                                  exact absurd H (by simp)
                                              · rw [if_neg c56] at H
                                                exact absurd H (by simp)
                                            · rw [if_neg c55] at H
                                              have c55b0 : ((bt a0 (ji25)) == 38) = false := beq_eq_false_iff_ne.mpr c55
                                              have c55b1 : ((bt a0 (ji25)) != 38) = true := bne_iff_ne.mpr c55
                                              by_cases c60 : x11_2.length < 140737488355328
                                              · rw [if_pos c60] at H
                                                have LMc60 := Aside0.mk c60
                                                clear c60
                                                obtain ⟨y267, hy267⟩ : ∃ y_ : List Int, y_ = (x11_2 ++ [bt a0 (ji25)]) := ⟨_, rfl⟩
                                                replace H : (runnelref17_DocUntil.l0 kj16 a0 a2 a3 y267 (wrap64 (x12_2 + 2))) = some (r1, r2, r3) := by first | (rw [hy267]; with_reducible exact H) | (have H2_ := (Option.bind_some _ _).symm.trans H; rw [hy267]; with_reducible exact H2_) | (have H2_ := (Option.bind_some _ _).symm.trans H; with_reducible exact H2_) | with_reducible exact H | (rw [hy267]; exact H) | exact H
                                                have Ny267 := Aside0.mk hy267
                                                clear hy267
                                                have H' := Aside0.mk H
                                                clear H
                                                have p28 : 0 ≤ ((ji25) : Int) := of_decide_eq_true (by first | (with_reducible assumption) | assumption)
                                                have q28 : (ji25) < (a0.size : Int) := of_decide_eq_true (by first | (with_reducible assumption) | assumption)
                                                have hx28 := bt_at a0 (ji25)
                                                replace p28 := eq_true p28
                                                replace q28 := eq_true q28
                                                go_wp2_with (first | ((with_reducible refine gate_builtin (b := .append) (xs := #[.tmp 109, .tmp 111]) rfl ?_); (try (refine gate_guard (by rfl) ?_; dsimp only)); at_builtin; refine Kd.R_append (Kd.int .u8) (w0 := w) w.heap.size rfl (.tmp 109) (.tmp 111) 39 5 (.int .u8 0) 1 rfl Try.underlying39 info5 rfl (by decide) (by omega) u11 x11_2 (bt a0 (ji25)) [.int .u8 (bt a0 (ji25))] (fun _ => True) (fun _ => False) rfl rfl ?aP (fun _ hk => hk.elim) ?aF ?aO ?aB ?aS ?aL ?_; (case aP => exact rfl); (case aB => exact (by repeat (first | (with_reducible first | exact HB.out | apply below_alloc | apply pw_below_drewN | apply below_drew1) | exact HB.out))); (case aF => exact (fun _ _ => trivial)); (case aO => exact (by (with_reducible repeat (first | apply Kd.R_alloc | apply Kd.R_drewN | apply Kd.R_drew)); exact HO_11.out)); (case aS => exact (below_size (by repeat (first | (with_reducible first | exact HB.out | apply below_alloc | apply pw_below_drewN | apply below_drew1) | exact HB.out)))); (case aL => have := LMc60.out; omega); intro v268 w61 ho hb hg hat; rw [← Ny267.out] at ho; have n0_ := Aside0.mk (hb); have n1_ := Aside0.mk (ho); clear HB; clear HO_11; have HB := n0_; have HO269 := n1_; clear n0_ n1_; clear ho hb hg hat))
                                                go_roundg kj16
                                                case measure => have := HJ4.out; have := HK2.out; have := HJ16.out; omega
                                                case rel => exact ⟨(y267), (wrap64 (x12_2 + 2)), (by first | rfl | (simp; done) | (simp [*]; done)), (by first | exact H' | (simp only [hji25]; exact H')), ⟨by have := HJ4.out; have := HK2.out; have := HJ16.out; omega⟩, ⟨by (with_reducible repeat (first | apply Kd.R_alloc | apply Kd.R_drewN | apply Kd.R_drew)); exact HO269.out⟩, ⟨by repeat (first | (with_reducible first | exact HB.out | apply below_alloc | apply pw_below_drewN | apply below_drew1) | exact HB.out)⟩⟩
                                              · rw [if_neg c60] at H
                                                exact absurd H (by simp)
                                · rw [if_neg c29] at H
                                  have c29b0 : ((bt a0 (ji25)) == a2) = false := beq_eq_false_iff_ne.mpr c29
                                  have c29b1 : ((bt a0 (ji25)) != a2) = true := bne_iff_ne.mpr c29
                                  by_cases c62 : x11_2.length < 140737488355328
                                  · rw [if_pos c62] at H
                                    have LMc62 := Aside0.mk c62
                                    clear c62
                                    obtain ⟨y270, hy270⟩ : ∃ y_ : List Int, y_ = (x11_2 ++ [(bt a0 x12_2)]) := ⟨_, rfl⟩
                                    replace H : (if y270.length < 140737488355328 then (runnelref17_DocUntil.l0 kj16 a0 a2 a3 (y270 ++ [bt a0 (ji25)]) (wrap64 (x12_2 + 2))) else (none)) = some (r1, r2, r3) := by first | (rw [hy270]; with_reducible exact H) | (have H2_ := (Option.bind_some _ _).symm.trans H; rw [hy270]; with_reducible exact H2_) | (have H2_ := (Option.bind_some _ _).symm.trans H; with_reducible exact H2_) | with_reducible exact H | (rw [hy270]; exact H) | exact H
                                    have Ny270 := Aside0.mk hy270
                                    clear hy270
                                    by_cases c63 : y270.length < 140737488355328
                                    · rw [if_pos c63] at H
                                      have LMc63 := Aside0.mk c63
                                      clear c63
                                      obtain ⟨y273, hy273⟩ : ∃ y_ : List Int, y_ = (y270 ++ [bt a0 (ji25)]) := ⟨_, rfl⟩
                                      replace H : (runnelref17_DocUntil.l0 kj16 a0 a2 a3 y273 (wrap64 (x12_2 + 2))) = some (r1, r2, r3) := by first | (rw [hy273]; with_reducible exact H) | (have H2_ := (Option.bind_some _ _).symm.trans H; rw [hy273]; with_reducible exact H2_) | (have H2_ := (Option.bind_some _ _).symm.trans H; with_reducible exact H2_) | with_reducible exact H | (rw [hy273]; exact H) | exact H
                                      have Ny273 := Aside0.mk hy273
                                      clear hy273
                                      have H' := Aside0.mk H
                                      clear H
                                      have p28 : 0 ≤ ((ji25) : Int) := of_decide_eq_true (by first | (with_reducible assumption) | assumption)
                                      have q28 : (ji25) < (a0.size : Int) := of_decide_eq_true (by first | (with_reducible assumption) | assumption)
                                      have hx28 := bt_at a0 (ji25)
                                      replace p28 := eq_true p28
                                      replace q28 := eq_true q28
                                      go_wp2_with (first | ((with_reducible refine gate_builtin (b := .append) (xs := #[.tmp 105, .tmp 107]) rfl ?_); (try (refine gate_guard (by rfl) ?_; dsimp only)); at_builtin; refine Kd.R_append (Kd.int .u8) (w0 := w) w.heap.size rfl (.tmp 105) (.tmp 107) 39 5 (.int .u8 0) 1 rfl Try.underlying39 info5 rfl (by decide) (by omega) u11 x11_2 (bt a0 x12_2) [.int .u8 (bt a0 x12_2)] (fun _ => True) (fun _ => False) rfl rfl ?aP (fun _ hk => hk.elim) ?aF ?aO ?aB ?aS ?aL ?_; (case aP => exact rfl); (case aB => exact (by repeat (first | (with_reducible first | exact HB.out | apply below_alloc | apply pw_below_drewN | apply below_drew1) | exact HB.out))); (case aF => exact (fun _ _ => trivial)); (case aO => exact (by (with_reducible repeat (first | apply Kd.R_alloc | apply Kd.R_drewN | apply Kd.R_drew)); exact HO_11.out)); (case aS => exact (below_size (by repeat (first | (with_reducible first | exact HB.out | apply below_alloc | apply pw_below_drewN | apply below_drew1) | exact HB.out)))); (case aL => have := LMc62.out; omega); intro v271 w64 ho hb hg hat; rw [← Ny270.out] at ho; have n0_ := Aside0.mk (hb); have n1_ := Aside0.mk (ho); clear HB; clear HO_11; have HB := n0_; have HO272 := n1_; clear n0_ n1_; clear ho hb hg hat) | ((with_reducible refine gate_builtin (b := .append) (xs := #[.tmp 109, .tmp 111]) rfl ?_); (try (refine gate_guard (by rfl) ?_; dsimp only)); at_builtin; refine Kd.R_append (Kd.int .u8) (w0 := w) w.heap.size rfl (.tmp 109) (.tmp 111) 39 5 (.int .u8 0) 1 rfl Try.underlying39 info5 rfl (by decide) (by omega) v271 y270 (bt a0 (ji25)) [.int .u8 (bt a0 (ji25))] (fun _ => True) (fun _ => False) rfl rfl ?aP (fun _ hk => hk.elim) ?aF ?aO ?aB ?aS ?aL ?_; (case aP => exact rfl); (case aB => exact (by repeat (first | (with_reducible first | exact HB.out | apply below_alloc | apply pw_below_drewN | apply below_drew1) | exact HB.out))); (case aF => exact (fun _ _ => trivial)); (case aO => exact (by (with_reducible repeat (first | apply Kd.R_alloc | apply Kd.R_drewN | apply Kd.R_drew)); exact HO272.out)); (case aS => exact (below_size (by repeat (first | (with_reducible first | exact HB.out | apply below_alloc | apply pw_below_drewN | apply below_drew1) | exact HB.out)))); (case aL => have := LMc63.out; omega); intro v274 w65 ho hb hg hat; rw [← Ny273.out] at ho; have n0_ := Aside0.mk (hb); have n1_ := Aside0.mk (ho); clear HB; clear HO272; have HB := n0_; have HO275 := n1_; clear n0_ n1_; clear ho hb hg hat))
                                      go_roundg kj16
                                      case measure => have := HJ4.out; have := HK2.out; have := HJ16.out; omega
                                      case rel => exact ⟨(y273), (wrap64 (x12_2 + 2)), (by first | rfl | (simp; done) | (simp [*]; done)), (by first | exact H' | (simp only [hji25]; exact H')), ⟨by have := HJ4.out; have := HK2.out; have := HJ16.out; omega⟩, ⟨by (with_reducible repeat (first | apply Kd.R_alloc | apply Kd.R_drewN | apply Kd.R_drew)); exact HO275.out⟩, ⟨by repeat (first | (with_reducible first | exact HB.out | apply below_alloc | apply pw_below_drewN | apply below_drew1) | exact HB.out)⟩⟩
                                    · rw [if_neg c63] at H
                                      exact absurd H (by simp)
                                  · rw [if_neg c62] at H
                                    exact absurd H (by simp)
                              · rw [if_neg c27] at H
                                exact absurd H (by simp)
                            · rw [if_neg c26] at H
                              exact absurd H (by simp)
                    · rw [if_neg c16] at H
                      have c16b0 : ((bt a0 x12_2) == 92) = false := beq_eq_false_iff_ne.mpr c16
                      have c16b1 : ((bt a0 x12_2) != 92) = true := bne_iff_ne.mpr c16
                      by_cases c66 : x11_2.length < 140737488355328
                      · rw [if_pos c66] at H
                        have LMc66 := Aside0.mk c66
                        clear c66
                        obtain ⟨y228, hy228⟩ : ∃ y_ : List Int, y_ = (x11_2 ++ [bt a0 x12_2]) := ⟨_, rfl⟩
                        replace H : (runnelref17_DocUntil.l0 k2 a0 a2 a3 y228 (wrap64 (x12_2 + 1))) = some (r1, r2, r3) := by first | (rw [hy228]; with_reducible exact H) | (have H2_ := (Option.bind_some _ _).symm.trans H; rw [hy228]; with_reducible exact H2_) | (have H2_ := (Option.bind_some _ _).symm.trans H; with_reducible exact H2_) | with_reducible exact H | (rw [hy228]; exact H) | exact H
                        have Ny228 := Aside0.mk hy228
                        clear hy228
                        have H' := Aside0.mk H
                        clear H
                        have p12 : 0 ≤ (x12_2 : Int) := of_decide_eq_true (by first | (with_reducible assumption) | assumption)
                        have q12 : x12_2 < (a0.size : Int) := of_decide_eq_true (by first | (with_reducible assumption) | assumption)
                        have hx12 := bt_at a0 x12_2
                        replace p12 := eq_true p12
                        replace q12 := eq_true q12
                        go_wp2_with (first | ((with_reducible refine gate_builtin (b := .append) (xs := #[.tmp 51, .tmp 53]) rfl ?_); (try (refine gate_guard (by rfl) ?_; dsimp only)); at_builtin; refine Kd.R_append (Kd.int .u8) (w0 := w) w.heap.size rfl (.tmp 51) (.tmp 53) 39 5 (.int .u8 0) 1 rfl Try.underlying39 info5 rfl (by decide) (by omega) u11 x11_2 (bt a0 x12_2) [.int .u8 (bt a0 x12_2)] (fun _ => True) (fun _ => False) rfl rfl ?aP (fun _ hk => hk.elim) ?aF ?aO ?aB ?aS ?aL ?_; (case aP => exact rfl); (case aB => exact (by repeat (first | (with_reducible first | exact HB.out | apply below_alloc | apply pw_below_drewN | apply below_drew1) | exact HB.out))); (case aF => exact (fun _ _ => trivial)); (case aO => exact (by (with_reducible repeat (first | apply Kd.R_alloc | apply Kd.R_drewN | apply Kd.R_drew)); exact HO_11.out)); (case aS => exact (below_size (by repeat (first | (with_reducible first | exact HB.out | apply below_alloc | apply pw_below_drewN | apply below_drew1) | exact HB.out)))); (case aL => have := LMc66.out; omega); intro v229 w67 ho hb hg hat; rw [← Ny228.out] at ho; have n0_ := Aside0.mk (hb); have n1_ := Aside0.mk (ho); clear HB; clear HO_11; have HB := n0_; have HO230 := n1_; clear n0_ n1_; clear ho hb hg hat))
                        go_roundg k2
                        case measure => have := HJ4.out; have := HK2.out; omega
                        case rel => exact ⟨(y228), (wrap64 (x12_2 + 1)), (by first | rfl | (simp; done) | (simp [*]; done)), H', ⟨by have := HJ4.out; have := HK2.out; omega⟩, ⟨by (with_reducible repeat (first | apply Kd.R_alloc | apply Kd.R_drewN | apply Kd.R_drew)); exact HO230.out⟩, ⟨by repeat (first | (with_reducible first | exact HB.out | apply below_alloc | apply pw_below_drewN | apply below_drew1) | exact HB.out)⟩⟩
                      · rw [if_neg c66] at H
                        exact absurd H (by simp)
              · rw [if_neg c11] at H
                exact absurd H (by simp)
            · rw [if_neg c10] at H
              have c10b0 : decide (x12_2 < (a0.size : Int)) = false := decide_eq_false c10
              clear c10
              simp only [Option.some.injEq, Prod.mk.injEq] at H
              obtain ⟨rfl, rfl, rfl⟩ := H
              go_wp2
              go_ret3
              exact ⟨by first | rfl | (simp only [wrap_wrap]; done) | (simp only [wrap_wrap]; rfl) | (simp [errW_none, errW_some] <;> rfl) | (simp [*, errW_none, errW_some] <;> rfl), by repeat (first | (with_reducible first | exact HB.out | apply below_alloc | apply pw_below_drewN | apply below_drew1) | exact HB.out)⟩

end Go.Proofs.Ytdlbmajilmmapaa.F
