-- Made by a program of this session (wip/tools/pr.py over the kit's printer). Not trusted: Lean checks it.
import Derived.Test.YtdlbmajilmmapaaDoorFx
import Derived.Test.YtdlbmajilmmapaaDoorF47
namespace Go.Proofs.YtdlbmajilmmapaaDoor.F
open Go.RowKit Go.Proofs.YtdlbmajilmmapaaDoorW.PrintWords Go.Proofs.YtdlbmajilmmapaaDoorW.PrintLast Go.Proofs.YtdlbmajilmmapaaDoorW.PrintMore
attribute [local go_sem] max2_int min2_int max_two min_two max_three min_three max_four min_four
set_option linter.unusedVariables false
set_option linter.unusedSimpArgs false

/-! ### scan_Until: function 26 -/
mutual
def scan_Until.j0 : Nat → ByteArray → Int → Int → Bool → Bool → Option (ByteArray × Int × Int)
  | 0, _, _, _, _, _ => none
  | k + 1, x0, x1, x2, x3, x29 => if x29 = true then (some ((⟨#[]⟩ : ByteArray), 0, 1)) else (scan_Until.l0 k x0 x2 x3 ([] : List Int) x1)
def scan_Until.l0 : Nat → ByteArray → Int → Bool → List Int → Int → Option (ByteArray × Int × Int)
  | 0, _, _, _, _, _ => none
  | k + 1, x0, x2, x3, x11, x12 => if x12 < (x0.size : Int) then (if 0 ≤ x12 then (if (bt x0 x12) = x2 then (some (strOfNums x11, wrap64 (x12 + 1), 0)) else (if (bt x0 x12) = 10 then (some ((⟨#[]⟩ : ByteArray), 0, 6)) else (if (bt x0 x12) = 92 then (if (wrap64 (x12 + 1)) = (x0.size : Int) then (scan_Until.j2 k x0 x2 x3 x11 (wrap64 (x12 + 1)) true) else (if 0 ≤ (wrap64 (x12 + 1)) then (if (wrap64 (x12 + 1)) < (x0.size : Int) then (if (bt x0 (wrap64 (x12 + 1))) = 10 then (scan_Until.j2 k x0 x2 x3 x11 (wrap64 (x12 + 1)) (!x3)) else (scan_Until.j2 k x0 x2 x3 x11 (wrap64 (x12 + 1)) false)) else (none)) else (none))) else (if x11.length < 140737488355328 then (scan_Until.l0 k x0 x2 x3 (x11 ++ [bt x0 x12]) (wrap64 (x12 + 1))) else (none))))) else (none)) else (some ((⟨#[]⟩ : ByteArray), 0, 6))
def scan_Until.j2 : Nat → ByteArray → Int → Bool → List Int → Int → Bool → Option (ByteArray × Int × Int)
  | 0, _, _, _, _, _, _ => none
  | k + 1, x0, x2, x3, x11, x12, x73 => if x73 = true then (some ((⟨#[]⟩ : ByteArray), 0, 6)) else (if 0 ≤ x12 then (if x12 < (x0.size : Int) then (if (bt x0 x12) = x2 then ((scan_keeps.f x2).bind fun t129 => (if t129 = true then (if x11.length < 140737488355328 then ((some (x11 ++ [92] : List Int)).bind fun y130 => (if y130.length < 140737488355328 then (scan_Until.l0 k x0 x2 x3 (y130 ++ [bt x0 x12]) (wrap64 (x12 + 1))) else (none))) else (none)) else (if x11.length < 140737488355328 then (scan_Until.l0 k x0 x2 x3 (x11 ++ [bt x0 x12]) (wrap64 (x12 + 1))) else (none)))) else (if x11.length < 140737488355328 then ((some (x11 ++ [92] : List Int)).bind fun y139 => (if y139.length < 140737488355328 then (scan_Until.l0 k x0 x2 x3 (y139 ++ [bt x0 x12]) (wrap64 (x12 + 1))) else (none))) else (none))) else (none)) else (none))
end
def scan_Until.f (k : Nat) (a0 : ByteArray) (a1 : Int) (a2 : Int) (a3 : Bool) : Option (ByteArray × Int × Int) := if a1 < 0 then (scan_Until.j0 k a0 a1 a2 a3 true) else (if a1 > (a0.size : Int) then (scan_Until.j0 k a0 a1 a2 a3 true) else (if a2 = 10 then (scan_Until.j0 k a0 a1 a2 a3 true) else (scan_Until.j0 k a0 a1 a2 a3 (a2 == 92))))
theorem scan_Until.mono_l : ∀ k, (∀ y0 y1 y2 y3 y4, LeO (scan_Until.j0 k y0 y1 y2 y3 y4) (scan_Until.j0 (k + 1) y0 y1 y2 y3 y4)) ∧ (∀ y0 y1 y2 y3 y4, LeO (scan_Until.l0 k y0 y1 y2 y3 y4) (scan_Until.l0 (k + 1) y0 y1 y2 y3 y4)) ∧ (∀ y0 y1 y2 y3 y4 y5, LeO (scan_Until.j2 k y0 y1 y2 y3 y4 y5) (scan_Until.j2 (k + 1) y0 y1 y2 y3 y4 y5))
  | 0 => ⟨fun _ _ _ _ _ r h => by simp [scan_Until.j0] at h, fun _ _ _ _ _ r h => by simp [scan_Until.l0] at h, fun _ _ _ _ _ _ r h => by simp [scan_Until.j2] at h⟩
  | k + 1 => by
    obtain ⟨ih0, ih1, ih2⟩ := scan_Until.mono_l k
    refine ⟨?_, ?_, ?_⟩
    · intro y0 y1 y2 y3 y4
      unfold scan_Until.j0
      repeat' first
      | (with_reducible exact ih0 _ _ _ _ _)
      | (with_reducible exact ih1 _ _ _ _ _)
      | (with_reducible exact ih2 _ _ _ _ _ _)
      | (with_reducible exact LeO.refl _)
      | (with_reducible exact LeO.none _)
      | (with_reducible refine LeO.ite ?_ ?_)
      | (with_reducible refine LeO.bind ?_ (fun _ => ?_))
      | exact ih0 _ _ _ _ _
      | exact ih1 _ _ _ _ _
      | exact ih2 _ _ _ _ _ _
      | exact LeO.none _
      | refine LeO.ite ?_ ?_
      | refine LeO.bind ?_ (fun _ => ?_)
    · intro y0 y1 y2 y3 y4
      unfold scan_Until.l0
      repeat' first
      | (with_reducible exact ih0 _ _ _ _ _)
      | (with_reducible exact ih1 _ _ _ _ _)
      | (with_reducible exact ih2 _ _ _ _ _ _)
      | (with_reducible exact LeO.refl _)
      | (with_reducible exact LeO.none _)
      | (with_reducible refine LeO.ite ?_ ?_)
      | (with_reducible refine LeO.bind ?_ (fun _ => ?_))
      | exact ih0 _ _ _ _ _
      | exact ih1 _ _ _ _ _
      | exact ih2 _ _ _ _ _ _
      | exact LeO.none _
      | refine LeO.ite ?_ ?_
      | refine LeO.bind ?_ (fun _ => ?_)
    · intro y0 y1 y2 y3 y4 y5
      unfold scan_Until.j2
      repeat' first
      | (with_reducible exact ih0 _ _ _ _ _)
      | (with_reducible exact ih1 _ _ _ _ _)
      | (with_reducible exact ih2 _ _ _ _ _ _)
      | (with_reducible exact LeO.refl _)
      | (with_reducible exact LeO.none _)
      | (with_reducible refine LeO.ite ?_ ?_)
      | (with_reducible refine LeO.bind ?_ (fun _ => ?_))
      | exact ih0 _ _ _ _ _
      | exact ih1 _ _ _ _ _
      | exact ih2 _ _ _ _ _ _
      | exact LeO.none _
      | refine LeO.ite ?_ ?_
      | refine LeO.bind ?_ (fun _ => ?_)
theorem scan_Until.mono : ∀ a0 a1 a2 a3 k, LeO (scan_Until.f k a0 a1 a2 a3) (scan_Until.f (k + 1) a0 a1 a2 a3) := by
  intro a0 a1 a2 a3 k
  obtain ⟨ih0, ih1, ih2⟩ := scan_Until.mono_l k
  unfold scan_Until.f
  repeat' first
      | (with_reducible exact ih0 _ _ _ _ _)
      | (with_reducible exact ih1 _ _ _ _ _)
      | (with_reducible exact ih2 _ _ _ _ _ _)
      | (with_reducible exact LeO.refl _)
      | (with_reducible exact LeO.none _)
      | (with_reducible refine LeO.ite ?_ ?_)
      | (with_reducible refine LeO.bind ?_ (fun _ => ?_))
      | exact ih0 _ _ _ _ _
      | exact ih1 _ _ _ _ _
      | exact ih2 _ _ _ _ _ _
      | exact LeO.none _
      | refine LeO.ite ?_ ?_
      | refine LeO.bind ?_ (fun _ => ?_)
set_option maxHeartbeats 8000000 in
set_option maxRecDepth 100000 in
theorem scan_Until.calls (k : Nat) (a0 : ByteArray) (a1 : Int) (a2 : Int) (a3 : Bool) (r1 : ByteArray) (r2 : Int) (r3 : Int) (w : World) (h : scan_Until.f k a0 a1 a2 a3 = some (r1, r2, r3)) :
    Calls Tryd.prog 26 #[.string a0, .int .i64 a1, .int .u8 a2, .bool a3] w fun e w' => e = .returned (.tuple #[.string r1, .int .i64 r2, .int .i64 r3]) ∧ Below w.heap.size w w' := by
  have HB := Aside0.mk (Below.refl w.heap.size w)
  have H : (if a1 < 0 then (scan_Until.j0 k a0 a1 a2 a3 true) else (if a1 > (a0.size : Int) then (scan_Until.j0 k a0 a1 a2 a3 true) else (if a2 = 10 then (scan_Until.j0 k a0 a1 a2 a3 true) else (scan_Until.j0 k a0 a1 a2 a3 (a2 == 92))))) = some (r1, r2, r3) := h
  clear h
  have HC5 := Aside0.mk H
  clear H
  go_enter Tryd.func26, Tryd.ntmps26
  go_wp2
  go_step3
  go_upto_region 1 with (fail)
  go_cut [29] (fun v29 wc => ∃ (kq : Nat) (x29_4 : Bool), v29 = .bool x29_4 ∧ Aside0 (scan_Until.j0 kq a0 a1 a2 a3 x29_4 = some (r1, r2, r3)) ∧ Aside0 (kq ≤ k) ∧ Aside0 (Below w.heap.size w wc))
  case first =>
    have H := HC5.out
    clear HC5
    by_cases c6 : a1 < 0
    · rw [if_pos c6] at H
      have c6b0 : decide (a1 < 0) = true := decide_eq_true c6
      clear c6
      (first | rw [c6b0] | (simp only [i64_w, i32_w]; rw [c6b0]) | skip)
      have H' := Aside0.mk H
      clear H
      go_wp2
      go_meet
      case rel => exact ⟨_, (true), (by first | rfl | (simp; done) | (simp [*]; done) | (exfalso; simp only [decide_eq_true_eq] at *; omega)), H', ⟨by first | omega | exact Nat.le_refl _⟩, ⟨by repeat (first | (with_reducible first | exact HB.out | apply below_alloc | apply pw_below_drewN | apply below_drew1) | exact HB.out)⟩⟩
    · rw [if_neg c6] at H
      have c6b0 : decide (a1 < 0) = false := decide_eq_false c6
      clear c6
      (first | rw [c6b0] | (simp only [i64_w, i32_w]; rw [c6b0]) | skip)
      by_cases c7 : a1 > (a0.size : Int)
      · rw [if_pos c7] at H
        have c7b0 : decide ((a0.size : Int) < a1) = true := decide_eq_true c7
        clear c7
        have H' := Aside0.mk H
        clear H
        go_wp2
        go_meet
        case rel => exact ⟨_, (true), (by first | rfl | (simp; done) | (simp [*]; done) | (exfalso; simp only [decide_eq_true_eq] at *; omega)), H', ⟨by first | omega | exact Nat.le_refl _⟩, ⟨by repeat (first | (with_reducible first | exact HB.out | apply below_alloc | apply pw_below_drewN | apply below_drew1) | exact HB.out)⟩⟩
      · rw [if_neg c7] at H
        have c7b0 : decide ((a0.size : Int) < a1) = false := decide_eq_false c7
        clear c7
        by_cases c8 : a2 = 10
        · rw [if_pos c8] at H
          have c8b0 : (a2 == 10) = true := beq_iff_eq.mpr c8
          have c8b1 : (a2 != 10) = false := bne_eq_false_iff_eq.mpr c8
          clear c8
          have H' := Aside0.mk H
          clear H
          go_wp2
          go_meet
          case rel => exact ⟨_, (true), (by first | rfl | (simp; done) | (simp [*]; done) | (exfalso; simp only [decide_eq_true_eq] at *; omega)), H', ⟨by first | omega | exact Nat.le_refl _⟩, ⟨by repeat (first | (with_reducible first | exact HB.out | apply below_alloc | apply pw_below_drewN | apply below_drew1) | exact HB.out)⟩⟩
        · rw [if_neg c8] at H
          have c8b0 : (a2 == 10) = false := beq_eq_false_iff_ne.mpr c8
          have c8b1 : (a2 != 10) = true := bne_iff_ne.mpr c8
          have H' := Aside0.mk H
          clear H
          go_wp2
          go_meet
          case rel => exact ⟨_, ((a2 == 92)), (by first | rfl | (simp; done) | (simp [*]; done) | (exfalso; simp only [decide_eq_true_eq] at *; omega)), H', ⟨by first | omega | exact Nat.le_refl _⟩, ⟨by repeat (first | (with_reducible first | exact HB.out | apply below_alloc | apply pw_below_drewN | apply below_drew1) | exact HB.out)⟩⟩
  case rest =>
    clear HC5
    try clear c2
    try clear p2
    try clear c6
    try clear c6b0
    try clear c7
    try clear c7b0
    try clear c8
    try clear c8b0
    try clear c8b1
    obtain ⟨kq, x29_4, rfl, HA, HJ4, HB⟩ := hcut
    cases kq with
    | zero => exact absurd HA.out (by simp [scan_Until.j0])
    | succ kj4 =>
      have H := HA.out
      clear HA
      simp only [scan_Until.j0] at H
      by_cases c9 : x29_4 = true
      · subst c9
        have H1 : (some ((⟨#[]⟩ : ByteArray), 0, 1)) = some (r1, r2, r3) := by rw [if_pos rfl] at H; exact H
        clear H
        have H := H1
        clear H1
        simp only [Option.some.injEq, Prod.mk.injEq] at H
        obtain ⟨rfl, rfl, rfl⟩ := H
        go_wp2
        try rw [Exit.noGoto_ret]
        go_ret3
        exact ⟨by first | rfl | (simp only [wrap_wrap]; done) | (simp only [wrap_wrap]; rfl) | (simp [errW_none, errW_some] <;> rfl) | (simp [*, errW_none, errW_some] <;> rfl), by repeat (first | (with_reducible first | exact HB.out | apply below_alloc | apply pw_below_drewN | apply below_drew1) | exact HB.out)⟩
      · replace c9 := Bool.eq_false_iff.mpr c9
        subst c9
        have H1 : (scan_Until.l0 kj4 a0 a2 a3 ([] : List Int) a1) = some (r1, r2, r3) := by rw [if_neg (show ¬ (false = true) by decide)] at H; exact H
        clear H
        have H := H1
        clear H1
        have H' := Aside0.mk H
        clear H
        go_wp2
        try go_step3
        try go_wp2
        go_loopg [11, 12] kj4 (fun kq v11 v12 w' => ∃ (x11_2 : List Int) (x12_2 : Int), v12 = .int .i64 x12_2 ∧ Aside0 (scan_Until.l0 kq a0 a2 a3 x11_2 x12_2 = some (r1, r2, r3)) ∧ Aside0 (kq ≤ kj4) ∧ Aside0 (Kd.R (Kd.int .u8) 5 w' w.heap.size (fun _ => True) v11 x11_2) ∧ Aside0 (Below w.heap.size w w'))
        case atStart => exact ⟨(([] : List Int)), (a1), (by first | rfl | (simp; done) | (simp [*]; done) | (exfalso; simp only [decide_eq_true_eq] at *; omega)), H', ⟨Nat.le_refl _⟩, ⟨by first | exact Kd.R_nil _ _ _ _ _ | exact Kd.N_nil _ _ _ _ _ | exact Kd.V_nil _ _ _ _ _ | exact Kd.Q_nil _ _ _ _ _ | exact Kd.S_nil _ _ _ _ _⟩, ⟨by repeat (first | (with_reducible first | exact HB.out | apply below_alloc | apply pw_below_drewN | apply below_drew1) | exact HB.out)⟩⟩
        case round =>
          clear H'
          try clear c2
          try clear p2
          try clear c6
          try clear c6b0
          try clear c7
          try clear c7b0
          try clear c8
          try clear c8b0
          try clear c8b1
          try clear c9
          try clear p2
          obtain ⟨x11_2, x12_2, rfl, HA, HK2, HO_11, HB⟩ := hrel
          cases gk with
          | zero => exact absurd HA.out (by simp [scan_Until.l0])
          | succ k2 =>
            have H := HA.out
            clear HA
            simp only [scan_Until.l0] at H
            by_cases c10 : x12_2 < (a0.size : Int)
            · rw [if_pos c10] at H
              have c10b0 : decide (x12_2 < (a0.size : Int)) = true := decide_eq_true c10
              clear c10
              by_cases c11 : 0 ≤ x12_2
              · rw [if_pos c11] at H
                have c11b0 : decide (0 ≤ x12_2) = true := decide_eq_true c11
                clear c11
                by_cases c13 : (bt a0 x12_2) = a2
                · rw [if_pos c13] at H
                  have c13b0 : ((bt a0 x12_2) == a2) = true := beq_iff_eq.mpr c13
                  have c13b1 : ((bt a0 x12_2) != a2) = false := bne_eq_false_iff_eq.mpr c13
                  clear c13
                  simp only [Option.some.injEq, Prod.mk.injEq] at H
                  obtain ⟨rfl, rfl, rfl⟩ := H
                  have p12 : 0 ≤ (x12_2 : Int) := of_decide_eq_true (by first | (with_reducible assumption) | assumption)
                  have q12 : x12_2 < (a0.size : Int) := of_decide_eq_true (by first | (with_reducible assumption) | assumption)
                  have hx12 := bt_at a0 x12_2
                  replace p12 := eq_true p12
                  replace q12 := eq_true q12
                  have hcv14 := own_string (P := Tryd.prog) Tryd.underlying55 Tryd.underlying5 Tryd.underlying9 (Kd.own_of_R HO_11.out)
                  go_wp2
                  try rw [Exit.noGoto_ret]
                  go_ret3
                  exact ⟨by first | rfl | (simp only [wrap_wrap]; done) | (simp only [wrap_wrap]; rfl) | (simp [errW_none, errW_some] <;> rfl) | (simp [*, errW_none, errW_some] <;> rfl), by repeat (first | (with_reducible first | exact HB.out | apply below_alloc | apply pw_below_drewN | apply below_drew1) | exact HB.out)⟩
                · rw [if_neg c13] at H
                  have c13b0 : ((bt a0 x12_2) == a2) = false := beq_eq_false_iff_ne.mpr c13
                  have c13b1 : ((bt a0 x12_2) != a2) = true := bne_iff_ne.mpr c13
                  by_cases c15 : (bt a0 x12_2) = 10
                  · rw [if_pos c15] at H
                    have c15b0 : ((bt a0 x12_2) == 10) = true := beq_iff_eq.mpr c15
                    have c15b1 : ((bt a0 x12_2) != 10) = false := bne_eq_false_iff_eq.mpr c15
                    clear c15
                    simp only [Option.some.injEq, Prod.mk.injEq] at H
                    obtain ⟨rfl, rfl, rfl⟩ := H
                    have p12 : 0 ≤ (x12_2 : Int) := of_decide_eq_true (by first | (with_reducible assumption) | assumption)
                    have q12 : x12_2 < (a0.size : Int) := of_decide_eq_true (by first | (with_reducible assumption) | assumption)
                    have hx12 := bt_at a0 x12_2
                    replace p12 := eq_true p12
                    replace q12 := eq_true q12
                    go_wp2
                    try rw [Exit.noGoto_ret]
                    go_ret3
                    exact ⟨by first | rfl | (simp only [wrap_wrap]; done) | (simp only [wrap_wrap]; rfl) | (simp [errW_none, errW_some] <;> rfl) | (simp [*, errW_none, errW_some] <;> rfl), by repeat (first | (with_reducible first | exact HB.out | apply below_alloc | apply pw_below_drewN | apply below_drew1) | exact HB.out)⟩
                  · rw [if_neg c15] at H
                    have c15b0 : ((bt a0 x12_2) == 10) = false := beq_eq_false_iff_ne.mpr c15
                    have c15b1 : ((bt a0 x12_2) != 10) = true := bne_iff_ne.mpr c15
                    by_cases c16 : (bt a0 x12_2) = 92
                    · rw [if_pos c16] at H
                      have c16b0 : ((bt a0 x12_2) == 92) = true := beq_iff_eq.mpr c16
                      have c16b1 : ((bt a0 x12_2) != 92) = false := bne_eq_false_iff_eq.mpr c16
                      clear c16
                      have HC17 := Aside0.mk H
                      clear H
                      have p12 : 0 ≤ (x12_2 : Int) := of_decide_eq_true (by first | (with_reducible assumption) | assumption)
                      have q12 : x12_2 < (a0.size : Int) := of_decide_eq_true (by first | (with_reducible assumption) | assumption)
                      have hx12 := bt_at a0 x12_2
                      replace p12 := eq_true p12
                      replace q12 := eq_true q12
                      go_upto_region 14 with (fail)
                      go_cut [73] (fun v73 wc => ∃ (kq : Nat) (x73_16 : Bool), v73 = .bool x73_16 ∧ Aside0 (scan_Until.j2 kq a0 a2 a3 x11_2 (wrap64 (x12_2 + 1)) x73_16 = some (r1, r2, r3)) ∧ Aside0 (kq ≤ k2) ∧ Aside0 (Kd.R (Kd.int .u8) 5 wc w.heap.size (fun _ => True) u11 x11_2) ∧ Aside0 (Below w.heap.size w wc))
                      case first =>
                        have H := HC17.out
                        clear HC17
                        by_cases c18 : (wrap64 (x12_2 + 1)) = (a0.size : Int)
                        · rw [if_pos c18] at H
                          have c18b0 : ((wrap64 (x12_2 + 1)) == (a0.size : Int)) = true := beq_iff_eq.mpr c18
                          have c18b1 : ((wrap64 (x12_2 + 1)) != (a0.size : Int)) = false := bne_eq_false_iff_eq.mpr c18
                          clear c18
                          (first | rw [c18b0] | (simp only [i64_w, i32_w]; rw [c18b0]) | skip)
                          have H' := Aside0.mk H
                          clear H
                          go_wp2
                          go_meet
                          case rel => exact ⟨_, (true), (by first | rfl | (simp; done) | (simp [*]; done) | (exfalso; simp only [decide_eq_true_eq] at *; omega)), H', ⟨by have := HJ4.out; have := HK2.out; first | omega | exact Nat.le_refl _⟩, ⟨by (with_reducible repeat (first | apply Kd.R_alloc | apply Kd.R_drewN | apply Kd.R_drew)); exact HO_11.out⟩, ⟨by repeat (first | (with_reducible first | exact HB.out | apply below_alloc | apply pw_below_drewN | apply below_drew1) | exact HB.out)⟩⟩
                        · rw [if_neg c18] at H
                          have c18b0 : ((wrap64 (x12_2 + 1)) == (a0.size : Int)) = false := beq_eq_false_iff_ne.mpr c18
                          have c18b1 : ((wrap64 (x12_2 + 1)) != (a0.size : Int)) = true := bne_iff_ne.mpr c18
                          (first | rw [c18b0] | (simp only [i64_w, i32_w]; rw [c18b0]) | skip)
                          obtain ⟨ji19, hji19⟩ : ∃ j_ : Int, (wrap64 (x12_2 + 1)) = j_ := ⟨_, rfl⟩
                          replace H : (if 0 ≤ (ji19) then (if (ji19) < (a0.size : Int) then (if (bt a0 (ji19)) = 10 then (scan_Until.j2 k2 a0 a2 a3 x11_2 ji19 (!a3)) else (scan_Until.j2 k2 a0 a2 a3 x11_2 ji19 false)) else (none)) else (none)) = some (r1, r2, r3) := by first | (rw [hji19] at H; exact H) | (simp only [hji19] at H ⊢; exact H)
                          (try rw [hji19] at c18b0)
                          (try rw [hji19] at c18b1)
                          have hji19w : (IntKind.i64.wrap (x12_2 + 1)) = ji19 := (i64_w _).trans hji19
                          by_cases c20 : 0 ≤ (ji19)
                          · rw [if_pos c20] at H
                            have c20b0 : decide (0 ≤ (ji19)) = true := decide_eq_true c20
                            clear c20
                            by_cases c21 : (ji19) < (a0.size : Int)
                            · rw [if_pos c21] at H
                              have c21b0 : decide ((ji19) < (a0.size : Int)) = true := decide_eq_true c21
                              clear c21
                              by_cases c23 : (bt a0 (ji19)) = 10
                              · rw [if_pos c23] at H
                                have c23b0 : ((bt a0 (ji19)) == 10) = true := beq_iff_eq.mpr c23
                                have c23b1 : ((bt a0 (ji19)) != 10) = false := bne_eq_false_iff_eq.mpr c23
                                clear c23
                                have H' := Aside0.mk H
                                clear H
                                have p22 : 0 ≤ ((ji19) : Int) := of_decide_eq_true (by first | (with_reducible assumption) | assumption)
                                have q22 : (ji19) < (a0.size : Int) := of_decide_eq_true (by first | (with_reducible assumption) | assumption)
                                have hx22 := bt_at a0 (ji19)
                                replace p22 := eq_true p22
                                replace q22 := eq_true q22
                                go_wp2
                                go_meet
                                case rel => exact ⟨_, (!a3), (by first | rfl | (simp; done) | (simp [*]; done) | (exfalso; simp only [decide_eq_true_eq] at *; omega)), (by first | exact H' | (simp only [hji19]; exact H')), ⟨by have := HJ4.out; have := HK2.out; first | omega | exact Nat.le_refl _⟩, ⟨by (with_reducible repeat (first | apply Kd.R_alloc | apply Kd.R_drewN | apply Kd.R_drew)); exact HO_11.out⟩, ⟨by repeat (first | (with_reducible first | exact HB.out | apply below_alloc | apply pw_below_drewN | apply below_drew1) | exact HB.out)⟩⟩
                              · rw [if_neg c23] at H
                                have c23b0 : ((bt a0 (ji19)) == 10) = false := beq_eq_false_iff_ne.mpr c23
                                have c23b1 : ((bt a0 (ji19)) != 10) = true := bne_iff_ne.mpr c23
                                have H' := Aside0.mk H
                                clear H
                                have p22 : 0 ≤ ((ji19) : Int) := of_decide_eq_true (by first | (with_reducible assumption) | assumption)
                                have q22 : (ji19) < (a0.size : Int) := of_decide_eq_true (by first | (with_reducible assumption) | assumption)
                                have hx22 := bt_at a0 (ji19)
                                replace p22 := eq_true p22
                                replace q22 := eq_true q22
                                go_wp2
                                go_meet
                                case rel => exact ⟨_, (false), (by first | rfl | (simp; done) | (simp [*]; done) | (exfalso; simp only [decide_eq_true_eq] at *; omega)), (by first | exact H' | (simp only [hji19]; exact H')), ⟨by have := HJ4.out; have := HK2.out; first | omega | exact Nat.le_refl _⟩, ⟨by (with_reducible repeat (first | apply Kd.R_alloc | apply Kd.R_drewN | apply Kd.R_drew)); exact HO_11.out⟩, ⟨by repeat (first | (with_reducible first | exact HB.out | apply below_alloc | apply pw_below_drewN | apply below_drew1) | exact HB.out)⟩⟩
                            · rw [if_neg c21] at H
                              exact absurd H (by simp)
                          · rw [if_neg c20] at H
                            exact absurd H (by simp)
                      case rest =>
                        clear HC17
                        try clear c1
                        try clear p1
                        try clear q1
                        try clear hx1
                        try clear hcv1
                        try clear c2
                        try clear p2
                        try clear q2
                        try clear hx2
                        try clear c6
                        try clear c6b0
                        try clear p6
                        try clear c7
                        try clear c7b0
                        try clear c8
                        try clear c8b0
                        try clear c8b1
                        try clear c9
                        try clear c10
                        try clear c10b0
                        try clear c11
                        try clear c11b0
                        try clear p12
                        try clear q12
                        try clear hx12
                        try clear c13
                        try clear c13b0
                        try clear c13b1
                        try clear hcv14
                        try clear c15
                        try clear c15b0
                        try clear c15b1
                        try clear c16
                        try clear c16b0
                        try clear c16b1
                        try clear c18
                        try clear c18b0
                        try clear c18b1
                        try clear c20
                        try clear c20b0
                        try clear c21
                        try clear c21b0
                        try clear p22
                        try clear q22
                        try clear hx22
                        try clear c23
                        try clear c23b0
                        try clear c23b1
                        try clear p12
                        try clear p2
                        try clear p22
                        try clear q12
                        try clear q22
                        obtain ⟨kq, x73_16, rfl, HA, HJ16, HO_11, HB⟩ := hcut
                        cases kq with
                        | zero => exact absurd HA.out (by simp [scan_Until.j2])
                        | succ kj16 =>
                          have H := HA.out
                          clear HA
                          simp only [scan_Until.j2] at H
                          by_cases c24 : x73_16 = true
                          · subst c24
                            have H1 : (some ((⟨#[]⟩ : ByteArray), 0, 6)) = some (r1, r2, r3) := by rw [if_pos rfl] at H; exact H
                            clear H
                            have H := H1
                            clear H1
                            simp only [Option.some.injEq, Prod.mk.injEq] at H
                            obtain ⟨rfl, rfl, rfl⟩ := H
                            go_wp2
                            try rw [Exit.noGoto_ret]
                            go_ret3
                            exact ⟨by first | rfl | (simp only [wrap_wrap]; done) | (simp only [wrap_wrap]; rfl) | (simp [errW_none, errW_some] <;> rfl) | (simp [*, errW_none, errW_some] <;> rfl), by repeat (first | (with_reducible first | exact HB.out | apply below_alloc | apply pw_below_drewN | apply below_drew1) | exact HB.out)⟩
                          · replace c24 := Bool.eq_false_iff.mpr c24
                            subst c24
                            have H1 : (if 0 ≤ (wrap64 (x12_2 + 1)) then (if (wrap64 (x12_2 + 1)) < (a0.size : Int) then (if (bt a0 (wrap64 (x12_2 + 1))) = a2 then ((scan_keeps.f a2).bind fun t129 => (if t129 = true then (if x11_2.length < 140737488355328 then ((some (x11_2 ++ [92] : List Int)).bind fun y130 => (if y130.length < 140737488355328 then (scan_Until.l0 kj16 a0 a2 a3 (y130 ++ [bt a0 (wrap64 (x12_2 + 1))]) (wrap64 ((wrap64 (x12_2 + 1)) + 1))) else (none))) else (none)) else (if x11_2.length < 140737488355328 then (scan_Until.l0 kj16 a0 a2 a3 (x11_2 ++ [bt a0 (wrap64 (x12_2 + 1))]) (wrap64 ((wrap64 (x12_2 + 1)) + 1))) else (none)))) else (if x11_2.length < 140737488355328 then ((some (x11_2 ++ [92] : List Int)).bind fun y139 => (if y139.length < 140737488355328 then (scan_Until.l0 kj16 a0 a2 a3 (y139 ++ [bt a0 (wrap64 (x12_2 + 1))]) (wrap64 ((wrap64 (x12_2 + 1)) + 1))) else (none))) else (none))) else (none)) else (none)) = some (r1, r2, r3) := by rw [if_neg (show ¬ (false = true) by decide)] at H; exact H
                            clear H
                            have H := H1
                            clear H1
                            obtain ⟨ji25, hji25⟩ : ∃ j_ : Int, (wrap64 (x12_2 + 1)) = j_ := ⟨_, rfl⟩
                            replace H : (if 0 ≤ (ji25) then (if (ji25) < (a0.size : Int) then (if (bt a0 (ji25)) = a2 then ((scan_keeps.f a2).bind fun t129 => (if t129 = true then (if x11_2.length < 140737488355328 then ((some (x11_2 ++ [92] : List Int)).bind fun y130 => (if y130.length < 140737488355328 then (scan_Until.l0 kj16 a0 a2 a3 (y130 ++ [bt a0 (ji25)]) (wrap64 ((ji25) + 1))) else (none))) else (none)) else (if x11_2.length < 140737488355328 then (scan_Until.l0 kj16 a0 a2 a3 (x11_2 ++ [bt a0 (ji25)]) (wrap64 ((ji25) + 1))) else (none)))) else (if x11_2.length < 140737488355328 then ((some (x11_2 ++ [92] : List Int)).bind fun y139 => (if y139.length < 140737488355328 then (scan_Until.l0 kj16 a0 a2 a3 (y139 ++ [bt a0 (ji25)]) (wrap64 ((ji25) + 1))) else (none))) else (none))) else (none)) else (none)) = some (r1, r2, r3) := by first | (rw [hji25] at H; exact H) | (simp only [hji25] at H ⊢; exact H)
                            have hji25w : (IntKind.i64.wrap (x12_2 + 1)) = ji25 := (i64_w _).trans hji25
                            by_cases c26 : 0 ≤ (ji25)
                            · rw [if_pos c26] at H
                              have c26b0 : decide (0 ≤ (ji25)) = true := decide_eq_true c26
                              clear c26
                              by_cases c27 : (ji25) < (a0.size : Int)
                              · rw [if_pos c27] at H
                                have c27b0 : decide ((ji25) < (a0.size : Int)) = true := decide_eq_true c27
                                clear c27
                                by_cases c29 : (bt a0 (ji25)) = a2
                                · rw [if_pos c29] at H
                                  have c29b0 : ((bt a0 (ji25)) == a2) = true := beq_iff_eq.mpr c29
                                  have c29b1 : ((bt a0 (ji25)) != a2) = false := bne_eq_false_iff_eq.mpr c29
                                  clear c29
                                  replace H := Option.bind_eq_some_iff.mp H
                                  obtain ⟨t129, A300, H⟩ := H
                                  replace H : (if t129 = true then (if x11_2.length < 140737488355328 then ((some (x11_2 ++ [92] : List Int)).bind fun y130 => (if y130.length < 140737488355328 then (scan_Until.l0 kj16 a0 a2 a3 (y130 ++ [bt a0 (ji25)]) (wrap64 ((ji25) + 1))) else (none))) else (none)) else (if x11_2.length < 140737488355328 then (scan_Until.l0 kj16 a0 a2 a3 (x11_2 ++ [bt a0 (ji25)]) (wrap64 ((ji25) + 1))) else (none))) = some (r1, r2, r3) := H
                                  have A30 := Aside0.mk A300
                                  clear A300
                                  by_cases c31 : t129 = true
                                  · subst c31
                                    have H1 : (if x11_2.length < 140737488355328 then ((some (x11_2 ++ [92] : List Int)).bind fun y130 => (if y130.length < 140737488355328 then (scan_Until.l0 kj16 a0 a2 a3 (y130 ++ [bt a0 (ji25)]) (wrap64 ((ji25) + 1))) else (none))) else (none)) = some (r1, r2, r3) := by rw [if_pos rfl] at H; exact H
                                    clear H
                                    have H := H1
                                    clear H1
                                    by_cases c32 : x11_2.length < 140737488355328
                                    · rw [if_pos c32] at H
                                      have LMc32 := Aside0.mk c32
                                      clear c32
                                      obtain ⟨y130, hy130⟩ : ∃ y_ : List Int, y_ = (x11_2 ++ [92]) := ⟨_, rfl⟩
                                      replace H : (if y130.length < 140737488355328 then (scan_Until.l0 kj16 a0 a2 a3 (y130 ++ [bt a0 (ji25)]) (wrap64 ((ji25) + 1))) else (none)) = some (r1, r2, r3) := by first | (rw [hy130]; with_reducible exact H) | (have H2_ := (Option.bind_some _ _).symm.trans H; rw [hy130]; with_reducible exact H2_) | (have H2_ := (Option.bind_some _ _).symm.trans H; with_reducible exact H2_) | with_reducible exact H | (rw [hy130]; exact H) | exact H
                                      have Ny130 := Aside0.mk hy130
                                      clear hy130
                                      by_cases c34 : y130.length < 140737488355328
                                      · rw [if_pos c34] at H
                                        have LMc34 := Aside0.mk c34
                                        clear c34
                                        obtain ⟨y133, hy133⟩ : ∃ y_ : List Int, y_ = (y130 ++ [bt a0 (ji25)]) := ⟨_, rfl⟩
                                        replace H : (scan_Until.l0 kj16 a0 a2 a3 y133 (wrap64 ((ji25) + 1))) = some (r1, r2, r3) := by first | (rw [hy133]; with_reducible exact H) | (have H2_ := (Option.bind_some _ _).symm.trans H; rw [hy133]; with_reducible exact H2_) | (have H2_ := (Option.bind_some _ _).symm.trans H; with_reducible exact H2_) | with_reducible exact H | (rw [hy133]; exact H) | exact H
                                        have Ny133 := Aside0.mk hy133
                                        clear hy133
                                        have H' := Aside0.mk H
                                        clear H
                                        have p28 : 0 ≤ ((ji25) : Int) := of_decide_eq_true (by first | (with_reducible assumption) | assumption)
                                        have q28 : (ji25) < (a0.size : Int) := of_decide_eq_true (by first | (with_reducible assumption) | assumption)
                                        have hx28 := bt_at a0 (ji25)
                                        replace p28 := eq_true p28
                                        replace q28 := eq_true q28
                                        go_wp2_with (first | (go_at_call 47; (with_reducible refine (scan_keeps.calls a2 true _ A30.out).mono ?_); rintro e w' ⟨rfl, ⟨nd, rfl⟩⟩) | ((with_reducible refine gate_builtin (b := .append) (xs := #[.tmp 83, .tmp 84]) rfl ?_); (try (refine gate_guard (by rfl) ?_; dsimp only)); at_builtin; refine Kd.R_append (Kd.int .u8) (w0 := w) w.heap.size rfl (.tmp 83) (.tmp 84) 55 5 (.int .u8 0) 1 rfl Tryd.underlying55 info5 rfl (by decide) (by omega) u11 x11_2 92 [.int .u8 92] (fun _ => True) (fun _ => False) rfl rfl ?aP (fun _ hk => hk.elim) ?aF ?aO ?aB ?aS ?aL ?_; (case aP => exact rfl); (case aB => exact (by repeat (first | (with_reducible first | exact HB.out | apply below_alloc | apply pw_below_drewN | apply below_drew1) | exact HB.out))); (case aF => exact (fun _ _ => trivial)); (case aO => exact (by (with_reducible repeat (first | apply Kd.R_alloc | apply Kd.R_drewN | apply Kd.R_drew)); exact HO_11.out)); (case aS => exact (below_size (by repeat (first | (with_reducible first | exact HB.out | apply below_alloc | apply pw_below_drewN | apply below_drew1) | exact HB.out)))); (case aL => have := LMc32.out; omega); intro v131 w35 ho hb hg hat; rw [← Ny130.out] at ho; have n0_ := Aside0.mk (hb); have n1_ := Aside0.mk (ho); clear HB; clear HO_11; have HB := n0_; have HO132 := n1_; clear n0_ n1_; clear ho hb hg hat; have p33 : 0 ≤ ((ji25) : Int) := of_decide_eq_true (by first | (with_reducible assumption) | assumption); have q33 : (ji25) < (a0.size : Int) := of_decide_eq_true (by first | (with_reducible assumption) | assumption); have hx33 := bt_at a0 (ji25); replace p33 := eq_true p33; replace q33 := eq_true q33) | ((with_reducible refine gate_builtin (b := .append) (xs := #[.tmp 86, .tmp 90]) rfl ?_); (try (refine gate_guard (by rfl) ?_; dsimp only)); at_builtin; refine Kd.R_append (Kd.int .u8) (w0 := w) w.heap.size rfl (.tmp 86) (.tmp 90) 55 5 (.int .u8 0) 1 rfl Tryd.underlying55 info5 rfl (by decide) (by omega) v131 y130 (bt a0 (ji25)) [.int .u8 (bt a0 (ji25))] (fun _ => True) (fun _ => False) rfl rfl ?aP (fun _ hk => hk.elim) ?aF ?aO ?aB ?aS ?aL ?_; (case aP => exact rfl); (case aB => exact (by repeat (first | (with_reducible first | exact HB.out | apply below_alloc | apply pw_below_drewN | apply below_drew1) | exact HB.out))); (case aF => exact (fun _ _ => trivial)); (case aO => exact (by (with_reducible repeat (first | apply Kd.R_alloc | apply Kd.R_drewN | apply Kd.R_drew)); exact HO132.out)); (case aS => exact (below_size (by repeat (first | (with_reducible first | exact HB.out | apply below_alloc | apply pw_below_drewN | apply below_drew1) | exact HB.out)))); (case aL => have := LMc34.out; omega); intro v134 w36 ho hb hg hat; rw [← Ny133.out] at ho; have n0_ := Aside0.mk (hb); have n1_ := Aside0.mk (ho); clear HB; clear HO132; have HB := n0_; have HO135 := n1_; clear n0_ n1_; clear ho hb hg hat))
                                        go_roundg kj16
                                        case measure => have := HJ4.out; have := HK2.out; have := HJ16.out; omega
                                        case rel => exact ⟨(y133), (wrap64 ((ji25) + 1)), (by first | rfl | (simp; done) | (simp only [← hji25] <;> (first | rfl | simp)) | (simp [*]; done)), (by first | exact H' | (simp only [hji25]; exact H')), ⟨by have := HJ4.out; have := HK2.out; have := HJ16.out; omega⟩, ⟨by (with_reducible repeat (first | apply Kd.R_alloc | apply Kd.R_drewN | apply Kd.R_drew)); exact HO135.out⟩, ⟨by repeat (first | (with_reducible first | exact HB.out | apply below_alloc | apply pw_below_drewN | apply below_drew1) | exact HB.out)⟩⟩
                                      · rw [if_neg c34] at H
                                        exact absurd H (by simp)
                                    · rw [if_neg c32] at H
                                      exact absurd H (by simp)
                                  · replace c31 := Bool.eq_false_iff.mpr c31
                                    subst c31
                                    have H1 : (if x11_2.length < 140737488355328 then (scan_Until.l0 kj16 a0 a2 a3 (x11_2 ++ [bt a0 (ji25)]) (wrap64 ((ji25) + 1))) else (none)) = some (r1, r2, r3) := by rw [if_neg (show ¬ (false = true) by decide)] at H; exact H
                                    clear H
                                    have H := H1
                                    clear H1
                                    by_cases c38 : x11_2.length < 140737488355328
                                    · rw [if_pos c38] at H
                                      have LMc38 := Aside0.mk c38
                                      clear c38
                                      obtain ⟨y136, hy136⟩ : ∃ y_ : List Int, y_ = (x11_2 ++ [bt a0 (ji25)]) := ⟨_, rfl⟩
                                      replace H : (scan_Until.l0 kj16 a0 a2 a3 y136 (wrap64 ((ji25) + 1))) = some (r1, r2, r3) := by first | (rw [hy136]; with_reducible exact H) | (have H2_ := (Option.bind_some _ _).symm.trans H; rw [hy136]; with_reducible exact H2_) | (have H2_ := (Option.bind_some _ _).symm.trans H; with_reducible exact H2_) | with_reducible exact H | (rw [hy136]; exact H) | exact H
                                      have Ny136 := Aside0.mk hy136
                                      clear hy136
                                      have H' := Aside0.mk H
                                      clear H
                                      have p28 : 0 ≤ ((ji25) : Int) := of_decide_eq_true (by first | (with_reducible assumption) | assumption)
                                      have q28 : (ji25) < (a0.size : Int) := of_decide_eq_true (by first | (with_reducible assumption) | assumption)
                                      have hx28 := bt_at a0 (ji25)
                                      replace p28 := eq_true p28
                                      replace q28 := eq_true q28
                                      go_wp2_with (first | (go_at_call 47; (with_reducible refine (scan_keeps.calls a2 false _ A30.out).mono ?_); rintro e w' ⟨rfl, ⟨nd, rfl⟩⟩; have p37 : 0 ≤ ((ji25) : Int) := of_decide_eq_true (by first | (with_reducible assumption) | assumption); have q37 : (ji25) < (a0.size : Int) := of_decide_eq_true (by first | (with_reducible assumption) | assumption); have hx37 := bt_at a0 (ji25); replace p37 := eq_true p37; replace q37 := eq_true q37) | ((with_reducible refine gate_builtin (b := .append) (xs := #[.tmp 86, .tmp 90]) rfl ?_); (try (refine gate_guard (by rfl) ?_; dsimp only)); at_builtin; refine Kd.R_append (Kd.int .u8) (w0 := w) w.heap.size rfl (.tmp 86) (.tmp 90) 55 5 (.int .u8 0) 1 rfl Tryd.underlying55 info5 rfl (by decide) (by omega) u11 x11_2 (bt a0 (ji25)) [.int .u8 (bt a0 (ji25))] (fun _ => True) (fun _ => False) rfl rfl ?aP (fun _ hk => hk.elim) ?aF ?aO ?aB ?aS ?aL ?_; (case aP => exact rfl); (case aB => exact (by repeat (first | (with_reducible first | exact HB.out | apply below_alloc | apply pw_below_drewN | apply below_drew1) | exact HB.out))); (case aF => exact (fun _ _ => trivial)); (case aO => exact (by (with_reducible repeat (first | apply Kd.R_alloc | apply Kd.R_drewN | apply Kd.R_drew)); exact HO_11.out)); (case aS => exact (below_size (by repeat (first | (with_reducible first | exact HB.out | apply below_alloc | apply pw_below_drewN | apply below_drew1) | exact HB.out)))); (case aL => have := LMc38.out; omega); intro v137 w39 ho hb hg hat; rw [← Ny136.out] at ho; have n0_ := Aside0.mk (hb); have n1_ := Aside0.mk (ho); clear HB; clear HO_11; have HB := n0_; have HO138 := n1_; clear n0_ n1_; clear ho hb hg hat))
                                      go_roundg kj16
                                      case measure => have := HJ4.out; have := HK2.out; have := HJ16.out; omega
                                      case rel => exact ⟨(y136), (wrap64 ((ji25) + 1)), (by first | rfl | (simp; done) | (simp only [← hji25] <;> (first | rfl | simp)) | (simp [*]; done)), (by first | exact H' | (simp only [hji25]; exact H')), ⟨by have := HJ4.out; have := HK2.out; have := HJ16.out; omega⟩, ⟨by (with_reducible repeat (first | apply Kd.R_alloc | apply Kd.R_drewN | apply Kd.R_drew)); exact HO138.out⟩, ⟨by repeat (first | (with_reducible first | exact HB.out | apply below_alloc | apply pw_below_drewN | apply below_drew1) | exact HB.out)⟩⟩
                                    · rw [if_neg c38] at H
                                      exact absurd H (by simp)
                                · rw [if_neg c29] at H
                                  have c29b0 : ((bt a0 (ji25)) == a2) = false := beq_eq_false_iff_ne.mpr c29
                                  have c29b1 : ((bt a0 (ji25)) != a2) = true := bne_iff_ne.mpr c29
                                  by_cases c40 : x11_2.length < 140737488355328
                                  · rw [if_pos c40] at H
                                    have LMc40 := Aside0.mk c40
                                    clear c40
                                    obtain ⟨y139, hy139⟩ : ∃ y_ : List Int, y_ = (x11_2 ++ [92]) := ⟨_, rfl⟩
                                    replace H : (if y139.length < 140737488355328 then (scan_Until.l0 kj16 a0 a2 a3 (y139 ++ [bt a0 (ji25)]) (wrap64 ((ji25) + 1))) else (none)) = some (r1, r2, r3) := by first | (rw [hy139]; with_reducible exact H) | (have H2_ := (Option.bind_some _ _).symm.trans H; rw [hy139]; with_reducible exact H2_) | (have H2_ := (Option.bind_some _ _).symm.trans H; with_reducible exact H2_) | with_reducible exact H | (rw [hy139]; exact H) | exact H
                                    have Ny139 := Aside0.mk hy139
                                    clear hy139
                                    by_cases c42 : y139.length < 140737488355328
                                    · rw [if_pos c42] at H
                                      have LMc42 := Aside0.mk c42
                                      clear c42
                                      obtain ⟨y142, hy142⟩ : ∃ y_ : List Int, y_ = (y139 ++ [bt a0 (ji25)]) := ⟨_, rfl⟩
                                      replace H : (scan_Until.l0 kj16 a0 a2 a3 y142 (wrap64 ((ji25) + 1))) = some (r1, r2, r3) := by first | (rw [hy142]; with_reducible exact H) | (have H2_ := (Option.bind_some _ _).symm.trans H; rw [hy142]; with_reducible exact H2_) | (have H2_ := (Option.bind_some _ _).symm.trans H; with_reducible exact H2_) | with_reducible exact H | (rw [hy142]; exact H) | exact H
                                      have Ny142 := Aside0.mk hy142
                                      clear hy142
                                      have H' := Aside0.mk H
                                      clear H
                                      have p28 : 0 ≤ ((ji25) : Int) := of_decide_eq_true (by first | (with_reducible assumption) | assumption)
                                      have q28 : (ji25) < (a0.size : Int) := of_decide_eq_true (by first | (with_reducible assumption) | assumption)
                                      have hx28 := bt_at a0 (ji25)
                                      replace p28 := eq_true p28
                                      replace q28 := eq_true q28
                                      go_wp2_with (first | ((with_reducible refine gate_builtin (b := .append) (xs := #[.tmp 83, .tmp 84]) rfl ?_); (try (refine gate_guard (by rfl) ?_; dsimp only)); at_builtin; refine Kd.R_append (Kd.int .u8) (w0 := w) w.heap.size rfl (.tmp 83) (.tmp 84) 55 5 (.int .u8 0) 1 rfl Tryd.underlying55 info5 rfl (by decide) (by omega) u11 x11_2 92 [.int .u8 92] (fun _ => True) (fun _ => False) rfl rfl ?aP (fun _ hk => hk.elim) ?aF ?aO ?aB ?aS ?aL ?_; (case aP => exact rfl); (case aB => exact (by repeat (first | (with_reducible first | exact HB.out | apply below_alloc | apply pw_below_drewN | apply below_drew1) | exact HB.out))); (case aF => exact (fun _ _ => trivial)); (case aO => exact (by (with_reducible repeat (first | apply Kd.R_alloc | apply Kd.R_drewN | apply Kd.R_drew)); exact HO_11.out)); (case aS => exact (below_size (by repeat (first | (with_reducible first | exact HB.out | apply below_alloc | apply pw_below_drewN | apply below_drew1) | exact HB.out)))); (case aL => have := LMc40.out; omega); intro v140 w43 ho hb hg hat; rw [← Ny139.out] at ho; have n0_ := Aside0.mk (hb); have n1_ := Aside0.mk (ho); clear HB; clear HO_11; have HB := n0_; have HO141 := n1_; clear n0_ n1_; clear ho hb hg hat; have p41 : 0 ≤ ((ji25) : Int) := of_decide_eq_true (by first | (with_reducible assumption) | assumption); have q41 : (ji25) < (a0.size : Int) := of_decide_eq_true (by first | (with_reducible assumption) | assumption); have hx41 := bt_at a0 (ji25); replace p41 := eq_true p41; replace q41 := eq_true q41) | ((with_reducible refine gate_builtin (b := .append) (xs := #[.tmp 86, .tmp 90]) rfl ?_); (try (refine gate_guard (by rfl) ?_; dsimp only)); at_builtin; refine Kd.R_append (Kd.int .u8) (w0 := w) w.heap.size rfl (.tmp 86) (.tmp 90) 55 5 (.int .u8 0) 1 rfl Tryd.underlying55 info5 rfl (by decide) (by omega) v140 y139 (bt a0 (ji25)) [.int .u8 (bt a0 (ji25))] (fun _ => True) (fun _ => False) rfl rfl ?aP (fun _ hk => hk.elim) ?aF ?aO ?aB ?aS ?aL ?_; (case aP => exact rfl); (case aB => exact (by repeat (first | (with_reducible first | exact HB.out | apply below_alloc | apply pw_below_drewN | apply below_drew1) | exact HB.out))); (case aF => exact (fun _ _ => trivial)); (case aO => exact (by (with_reducible repeat (first | apply Kd.R_alloc | apply Kd.R_drewN | apply Kd.R_drew)); exact HO141.out)); (case aS => exact (below_size (by repeat (first | (with_reducible first | exact HB.out | apply below_alloc | apply pw_below_drewN | apply below_drew1) | exact HB.out)))); (case aL => have := LMc42.out; omega); intro v143 w44 ho hb hg hat; rw [← Ny142.out] at ho; have n0_ := Aside0.mk (hb); have n1_ := Aside0.mk (ho); clear HB; clear HO141; have HB := n0_; have HO144 := n1_; clear n0_ n1_; clear ho hb hg hat))
                                      go_roundg kj16
                                      case measure => have := HJ4.out; have := HK2.out; have := HJ16.out; omega
                                      case rel => exact ⟨(y142), (wrap64 ((ji25) + 1)), (by first | rfl | (simp; done) | (simp only [← hji25] <;> (first | rfl | simp)) | (simp [*]; done)), (by first | exact H' | (simp only [hji25]; exact H')), ⟨by have := HJ4.out; have := HK2.out; have := HJ16.out; omega⟩, ⟨by (with_reducible repeat (first | apply Kd.R_alloc | apply Kd.R_drewN | apply Kd.R_drew)); exact HO144.out⟩, ⟨by repeat (first | (with_reducible first | exact HB.out | apply below_alloc | apply pw_below_drewN | apply below_drew1) | exact HB.out)⟩⟩
                                    · rw [if_neg c42] at H
                                      exact absurd H (by simp)
                                  · rw [if_neg c40] at H
                                    exact absurd H (by simp)
                              · rw [if_neg c27] at H
                                exact absurd H (by simp)
                            · rw [if_neg c26] at H
                              exact absurd H (by simp)
                    · rw [if_neg c16] at H
                      have c16b0 : ((bt a0 x12_2) == 92) = false := beq_eq_false_iff_ne.mpr c16
                      have c16b1 : ((bt a0 x12_2) != 92) = true := bne_iff_ne.mpr c16
                      by_cases c45 : x11_2.length < 140737488355328
                      · rw [if_pos c45] at H
                        have LMc45 := Aside0.mk c45
                        clear c45
                        obtain ⟨y126, hy126⟩ : ∃ y_ : List Int, y_ = (x11_2 ++ [bt a0 x12_2]) := ⟨_, rfl⟩
                        replace H : (scan_Until.l0 k2 a0 a2 a3 y126 (wrap64 (x12_2 + 1))) = some (r1, r2, r3) := by first | (rw [hy126]; with_reducible exact H) | (have H2_ := (Option.bind_some _ _).symm.trans H; rw [hy126]; with_reducible exact H2_) | (have H2_ := (Option.bind_some _ _).symm.trans H; with_reducible exact H2_) | with_reducible exact H | (rw [hy126]; exact H) | exact H
                        have Ny126 := Aside0.mk hy126
                        clear hy126
                        have H' := Aside0.mk H
                        clear H
                        have p12 : 0 ≤ (x12_2 : Int) := of_decide_eq_true (by first | (with_reducible assumption) | assumption)
                        have q12 : x12_2 < (a0.size : Int) := of_decide_eq_true (by first | (with_reducible assumption) | assumption)
                        have hx12 := bt_at a0 x12_2
                        replace p12 := eq_true p12
                        replace q12 := eq_true q12
                        go_wp2_with (first | ((with_reducible refine gate_builtin (b := .append) (xs := #[.tmp 54, .tmp 56]) rfl ?_); (try (refine gate_guard (by rfl) ?_; dsimp only)); at_builtin; refine Kd.R_append (Kd.int .u8) (w0 := w) w.heap.size rfl (.tmp 54) (.tmp 56) 55 5 (.int .u8 0) 1 rfl Tryd.underlying55 info5 rfl (by decide) (by omega) u11 x11_2 (bt a0 x12_2) [.int .u8 (bt a0 x12_2)] (fun _ => True) (fun _ => False) rfl rfl ?aP (fun _ hk => hk.elim) ?aF ?aO ?aB ?aS ?aL ?_; (case aP => exact rfl); (case aB => exact (by repeat (first | (with_reducible first | exact HB.out | apply below_alloc | apply pw_below_drewN | apply below_drew1) | exact HB.out))); (case aF => exact (fun _ _ => trivial)); (case aO => exact (by (with_reducible repeat (first | apply Kd.R_alloc | apply Kd.R_drewN | apply Kd.R_drew)); exact HO_11.out)); (case aS => exact (below_size (by repeat (first | (with_reducible first | exact HB.out | apply below_alloc | apply pw_below_drewN | apply below_drew1) | exact HB.out)))); (case aL => have := LMc45.out; omega); intro v127 w46 ho hb hg hat; rw [← Ny126.out] at ho; have n0_ := Aside0.mk (hb); have n1_ := Aside0.mk (ho); clear HB; clear HO_11; have HB := n0_; have HO128 := n1_; clear n0_ n1_; clear ho hb hg hat))
                        go_roundg k2
                        case measure => have := HJ4.out; have := HK2.out; omega
                        case rel => exact ⟨(y126), (wrap64 (x12_2 + 1)), (by first | rfl | (simp; done) | (simp [*]; done) | (exfalso; simp only [decide_eq_true_eq] at *; omega)), H', ⟨by have := HJ4.out; have := HK2.out; omega⟩, ⟨by (with_reducible repeat (first | apply Kd.R_alloc | apply Kd.R_drewN | apply Kd.R_drew)); exact HO128.out⟩, ⟨by repeat (first | (with_reducible first | exact HB.out | apply below_alloc | apply pw_below_drewN | apply below_drew1) | exact HB.out)⟩⟩
                      · rw [if_neg c45] at H
                        exact absurd H (by simp)
              · rw [if_neg c11] at H
                exact absurd H (by simp)
            · rw [if_neg c10] at H
              have c10b0 : decide (x12_2 < (a0.size : Int)) = false := decide_eq_false c10
              clear c10
              simp only [Option.some.injEq, Prod.mk.injEq] at H
              obtain ⟨rfl, rfl, rfl⟩ := H
              go_wp2
              try rw [Exit.noGoto_ret]
              go_ret3
              exact ⟨by first | rfl | (simp only [wrap_wrap]; done) | (simp only [wrap_wrap]; rfl) | (simp [errW_none, errW_some] <;> rfl) | (simp [*, errW_none, errW_some] <;> rfl), by repeat (first | (with_reducible first | exact HB.out | apply below_alloc | apply pw_below_drewN | apply below_drew1) | exact HB.out)⟩

end Go.Proofs.YtdlbmajilmmapaaDoor.F
