-- Made by a program of this session (wip/tools/pr.py over the kit's printer). Not trusted: Lean checks it.
import Derived.Test.YtdlbmajilmmapaaFx
import Derived.Test.YtdlbmajilmmapaaF36
namespace Go.Proofs.Ytdlbmajilmmapaa.F
open Go.RowKit Go.Proofs.YtdlbmajilmmapaaW.PrintWords Go.Proofs.YtdlbmajilmmapaaW.PrintLast Go.Proofs.YtdlbmajilmmapaaW.PrintMore
attribute [local go_sem] max2_int min2_int max_two min_two max_three min_three max_four min_four
set_option linter.unusedVariables false
set_option linter.unusedSimpArgs false

/-! ### runnelref17_DocText: function 32 -/
mutual
def runnelref17_DocText.j0 : Nat → ByteArray → Int → Bool → Option (ByteArray × Int × Int)
  | 0, _, _, _ => none
  | k + 1, x0, x7, x29 => if x29 = true then (some ((⟨#[]⟩ : ByteArray), 0, 19)) else (if (wrap64 (x7 + 2)) = (x0.size : Int) then (some ((⟨#[]⟩ : ByteArray), 0, 6)) else (runnelref17_DocText.l0 k x0 (wrap64 (x7 + 2)) ([] : List Int)))
def runnelref17_DocText.l0 : Nat → ByteArray → Int → List Int → Option (ByteArray × Int × Int)
  | 0, _, _, _ => none
  | k + 1, x0, x7, x8 => if x7 < (x0.size : Int) then (if 0 ≤ x7 then (runnelref17_DocText.j2 k x0 x7 x8 ((bt x0 x7) != 10)) else (none)) else (runnelref17_DocText.j2 k x0 x7 x8 false)
def runnelref17_DocText.j2 : Nat → ByteArray → Int → List Int → Bool → Option (ByteArray × Int × Int)
  | 0, _, _, _, _ => none
  | k + 1, x0, x7, x8, x45 => if x45 = true then (if 0 ≤ x7 then (if x7 < (x0.size : Int) then (if (bt x0 x7) = 92 then (if (wrap64 (x7 + 1)) = (x0.size : Int) then (some ((⟨#[]⟩ : ByteArray), 0, 6)) else (if 0 ≤ (wrap64 (x7 + 1)) then (if (wrap64 (x7 + 1)) < (x0.size : Int) then (if x8.length < 140737488355328 then (runnelref17_DocText.l0 k x0 (wrap64 ((wrap64 (x7 + 1)) + 1)) (x8 ++ [bt x0 (wrap64 (x7 + 1))])) else (none)) else (none)) else (none))) else (if x8.length < 140737488355328 then (runnelref17_DocText.l0 k x0 (wrap64 (x7 + 1)) (x8 ++ [bt x0 x7])) else (none))) else (none)) else (none)) else (if x7 < (x0.size : Int) then (if x8.length < 140737488355328 then (some (strOfNums (x8 ++ [10]), wrap64 (x7 + 1), 0)) else (none)) else (if x8.length < 140737488355328 then (some (strOfNums (x8 ++ [10]), x7, 0)) else (none)))
end
def runnelref17_DocText.f (k : Nat) (a0 : ByteArray) (a1 : Int) : Option (ByteArray × Int × Int) := (runnelref17_Blanks.f k a0 a1).bind fun t308 => (if (wrap64 (t308 + 1)) ≥ (a0.size : Int) then (runnelref17_DocText.j0 k a0 t308 true) else (if 0 ≤ t308 then (if t308 < (a0.size : Int) then (if (bt a0 t308) = 92 then (if 0 ≤ (wrap64 (t308 + 1)) then (if (wrap64 (t308 + 1)) < (a0.size : Int) then (runnelref17_DocText.j0 k a0 t308 ((bt a0 (wrap64 (t308 + 1))) != 10)) else (none)) else (none)) else (runnelref17_DocText.j0 k a0 t308 true)) else (none)) else (none)))
theorem runnelref17_DocText.mono_l : ∀ k, (∀ y0 y1 y2, LeO (runnelref17_DocText.j0 k y0 y1 y2) (runnelref17_DocText.j0 (k + 1) y0 y1 y2)) ∧ (∀ y0 y1 y2, LeO (runnelref17_DocText.l0 k y0 y1 y2) (runnelref17_DocText.l0 (k + 1) y0 y1 y2)) ∧ (∀ y0 y1 y2 y3, LeO (runnelref17_DocText.j2 k y0 y1 y2 y3) (runnelref17_DocText.j2 (k + 1) y0 y1 y2 y3))
  | 0 => ⟨fun _ _ _ r h => by simp [runnelref17_DocText.j0] at h, fun _ _ _ r h => by simp [runnelref17_DocText.l0] at h, fun _ _ _ _ r h => by simp [runnelref17_DocText.j2] at h⟩
  | k + 1 => by
    obtain ⟨ih0, ih1, ih2⟩ := runnelref17_DocText.mono_l k
    refine ⟨?_, ?_, ?_⟩
    · intro y0 y1 y2
      unfold runnelref17_DocText.j0
      repeat' first
      | (with_reducible exact ih0 _ _ _)
      | (with_reducible exact ih1 _ _ _)
      | (with_reducible exact ih2 _ _ _ _)
      | (with_reducible exact runnelref17_Blanks.mono _ _ _)
      | (with_reducible exact LeO.refl _)
      | (with_reducible exact LeO.none _)
      | (with_reducible refine LeO.ite ?_ ?_)
      | (with_reducible refine LeO.bind ?_ (fun _ => ?_))
      | exact ih0 _ _ _
      | exact ih1 _ _ _
      | exact ih2 _ _ _ _
      | exact runnelref17_Blanks.mono _ _ _
      | exact LeO.none _
      | refine LeO.ite ?_ ?_
      | refine LeO.bind ?_ (fun _ => ?_)
    · intro y0 y1 y2
      unfold runnelref17_DocText.l0
      repeat' first
      | (with_reducible exact ih0 _ _ _)
      | (with_reducible exact ih1 _ _ _)
      | (with_reducible exact ih2 _ _ _ _)
      | (with_reducible exact runnelref17_Blanks.mono _ _ _)
      | (with_reducible exact LeO.refl _)
      | (with_reducible exact LeO.none _)
      | (with_reducible refine LeO.ite ?_ ?_)
      | (with_reducible refine LeO.bind ?_ (fun _ => ?_))
      | exact ih0 _ _ _
      | exact ih1 _ _ _
      | exact ih2 _ _ _ _
      | exact runnelref17_Blanks.mono _ _ _
      | exact LeO.none _
      | refine LeO.ite ?_ ?_
      | refine LeO.bind ?_ (fun _ => ?_)
    · intro y0 y1 y2 y3
      unfold runnelref17_DocText.j2
      repeat' first
      | (with_reducible exact ih0 _ _ _)
      | (with_reducible exact ih1 _ _ _)
      | (with_reducible exact ih2 _ _ _ _)
      | (with_reducible exact runnelref17_Blanks.mono _ _ _)
      | (with_reducible exact LeO.refl _)
      | (with_reducible exact LeO.none _)
      | (with_reducible refine LeO.ite ?_ ?_)
      | (with_reducible refine LeO.bind ?_ (fun _ => ?_))
      | exact ih0 _ _ _
      | exact ih1 _ _ _
      | exact ih2 _ _ _ _
      | exact runnelref17_Blanks.mono _ _ _
      | exact LeO.none _
      | refine LeO.ite ?_ ?_
      | refine LeO.bind ?_ (fun _ => ?_)
theorem runnelref17_DocText.mono : ∀ a0 a1 k, LeO (runnelref17_DocText.f k a0 a1) (runnelref17_DocText.f (k + 1) a0 a1) := by
  intro a0 a1 k
  obtain ⟨ih0, ih1, ih2⟩ := runnelref17_DocText.mono_l k
  unfold runnelref17_DocText.f
  repeat' first
      | (with_reducible exact ih0 _ _ _)
      | (with_reducible exact ih1 _ _ _)
      | (with_reducible exact ih2 _ _ _ _)
      | (with_reducible exact runnelref17_Blanks.mono _ _ _)
      | (with_reducible exact LeO.refl _)
      | (with_reducible exact LeO.none _)
      | (with_reducible refine LeO.ite ?_ ?_)
      | (with_reducible refine LeO.bind ?_ (fun _ => ?_))
      | exact ih0 _ _ _
      | exact ih1 _ _ _
      | exact ih2 _ _ _ _
      | exact runnelref17_Blanks.mono _ _ _
      | exact LeO.none _
      | refine LeO.ite ?_ ?_
      | refine LeO.bind ?_ (fun _ => ?_)
set_option maxHeartbeats 8000000 in
set_option maxRecDepth 100000 in
theorem runnelref17_DocText.calls (k : Nat) (a0 : ByteArray) (a1 : Int) (r1 : ByteArray) (r2 : Int) (r3 : Int) (w : World) (h : runnelref17_DocText.f k a0 a1 = some (r1, r2, r3)) :
    Calls Try.prog 32 #[.string a0, .int .i64 a1] w fun e w' => e = .returned (.tuple #[.string r1, .int .i64 r2, .int .i64 r3]) ∧ Below w.heap.size w w' := by
  have HB := Aside0.mk (Below.refl w.heap.size w)
  have H : ((runnelref17_Blanks.f k a0 a1).bind fun t308 => (if (wrap64 (t308 + 1)) ≥ (a0.size : Int) then (runnelref17_DocText.j0 k a0 t308 true) else (if 0 ≤ t308 then (if t308 < (a0.size : Int) then (if (bt a0 t308) = 92 then (if 0 ≤ (wrap64 (t308 + 1)) then (if (wrap64 (t308 + 1)) < (a0.size : Int) then (runnelref17_DocText.j0 k a0 t308 ((bt a0 (wrap64 (t308 + 1))) != 10)) else (none)) else (none)) else (runnelref17_DocText.j0 k a0 t308 true)) else (none)) else (none)))) = some (r1, r2, r3) := h
  clear h
  replace H := Option.bind_eq_some_iff.mp H
  obtain ⟨t308, A30, H⟩ := H
  replace H : (if (wrap64 (t308 + 1)) ≥ (a0.size : Int) then (runnelref17_DocText.j0 k a0 t308 true) else (if 0 ≤ t308 then (if t308 < (a0.size : Int) then (if (bt a0 t308) = 92 then (if 0 ≤ (wrap64 (t308 + 1)) then (if (wrap64 (t308 + 1)) < (a0.size : Int) then (runnelref17_DocText.j0 k a0 t308 ((bt a0 (wrap64 (t308 + 1))) != 10)) else (none)) else (none)) else (runnelref17_DocText.j0 k a0 t308 true)) else (none)) else (none))) = some (r1, r2, r3) := H
  have A3 := Aside0.mk A30
  clear A30
  have HC4 := Aside0.mk H
  clear H
  go_enter Try.func32, Try.ntmps32
  go_upto_region 2 with (first | ((with_reducible refine gate_callee (f := 36) rfl ?_); refine goesL_ (some 11) rfl rfl Try.func36 (by kernel_rfl) rfl #[.string a0, .int .i64 a1] rfl (by (try simp only [List.map_toArray, List.map_cons, List.map_nil]); first | done | rfl | (simp only [List.length_drop, List.length_take]; rfl)) ?_; (with_reducible refine (runnelref17_Blanks.calls k a0 a1 t308 _ A3.out).mono ?_); rintro e w' ⟨rfl, ⟨nd, rfl⟩⟩; refine ⟨_, rfl, ?_⟩))
  (try simp only [Act.put, List.setIfInBounds_toArray, List.set_cons_zero, List.set_cons_succ])
  go_cut [29] (fun v29 wc => ∃ (kq : Nat) (x29_3 : Bool), v29 = .bool x29_3 ∧ Aside0 (runnelref17_DocText.j0 kq a0 t308 x29_3 = some (r1, r2, r3)) ∧ Aside0 (kq ≤ k) ∧ Aside0 (Below w.heap.size w wc))
  case first =>
    have H := HC4.out
    clear HC4
    by_cases c5 : (wrap64 (t308 + 1)) ≥ (a0.size : Int)
    · rw [if_pos c5] at H
      have c5b0 : decide ((a0.size : Int) ≤ (wrap64 (t308 + 1))) = true := decide_eq_true c5
      clear c5
      (first | rw [c5b0] | (simp only [i64_w, i32_w]; rw [c5b0]) | skip)
      have H' := Aside0.mk H
      clear H
      go_wp2
      go_meet
      case rel => exact ⟨_, (true), (by first | rfl | (simp; done) | (simp [*]; done)), H', ⟨by first | omega | exact Nat.le_refl _⟩, ⟨by repeat (first | (with_reducible first | exact HB.out | apply below_alloc | apply pw_below_drewN | apply below_drew1) | exact HB.out)⟩⟩
    · rw [if_neg c5] at H
      have c5b0 : decide ((a0.size : Int) ≤ (wrap64 (t308 + 1))) = false := decide_eq_false c5
      clear c5
      (first | rw [c5b0] | (simp only [i64_w, i32_w]; rw [c5b0]) | skip)
      by_cases c6 : 0 ≤ t308
      · rw [if_pos c6] at H
        have c6b0 : decide (0 ≤ t308) = true := decide_eq_true c6
        clear c6
        by_cases c7 : t308 < (a0.size : Int)
        · rw [if_pos c7] at H
          have c7b0 : decide (t308 < (a0.size : Int)) = true := decide_eq_true c7
          clear c7
          by_cases c9 : (bt a0 t308) = 92
          · rw [if_pos c9] at H
            have c9b0 : ((bt a0 t308) == 92) = true := beq_iff_eq.mpr c9
            have c9b1 : ((bt a0 t308) != 92) = false := bne_eq_false_iff_eq.mpr c9
            clear c9
            obtain ⟨ji10, hji10⟩ : ∃ j_ : Int, (wrap64 (t308 + 1)) = j_ := ⟨_, rfl⟩
            replace H : (if 0 ≤ (ji10) then (if (ji10) < (a0.size : Int) then (runnelref17_DocText.j0 k a0 t308 ((bt a0 (ji10)) != 10)) else (none)) else (none)) = some (r1, r2, r3) := by first | (rw [hji10] at H; exact H) | (simp only [hji10] at H ⊢; exact H)
            (try rw [hji10] at c5b0)
            have hji10w : (IntKind.i64.wrap (t308 + 1)) = ji10 := (i64_w _).trans hji10
            by_cases c11 : 0 ≤ (ji10)
            · rw [if_pos c11] at H
              have c11b0 : decide (0 ≤ (ji10)) = true := decide_eq_true c11
              clear c11
              by_cases c12 : (ji10) < (a0.size : Int)
              · rw [if_pos c12] at H
                have c12b0 : decide ((ji10) < (a0.size : Int)) = true := decide_eq_true c12
                clear c12
                have H' := Aside0.mk H
                clear H
                have p8 : 0 ≤ (t308 : Int) := of_decide_eq_true (by first | (with_reducible assumption) | assumption)
                have q8 : t308 < (a0.size : Int) := of_decide_eq_true (by first | (with_reducible assumption) | assumption)
                have hx8 := bt_at a0 t308
                replace p8 := eq_true p8
                replace q8 := eq_true q8
                have p13 : 0 ≤ ((ji10) : Int) := of_decide_eq_true (by first | (with_reducible assumption) | assumption)
                have q13 : (ji10) < (a0.size : Int) := of_decide_eq_true (by first | (with_reducible assumption) | assumption)
                have hx13 := bt_at a0 (ji10)
                replace p13 := eq_true p13
                replace q13 := eq_true q13
                go_wp2
                go_meet
                case rel => exact ⟨_, (((bt a0 (ji10)) != 10)), (by first | rfl | (simp; done) | (simp only [← hji10] <;> (first | rfl | simp)) | (simp [*]; done)), (by first | exact H' | (simp only [hji10]; exact H')), ⟨by first | omega | exact Nat.le_refl _⟩, ⟨by repeat (first | (with_reducible first | exact HB.out | apply below_alloc | apply pw_below_drewN | apply below_drew1) | exact HB.out)⟩⟩
              · rw [if_neg c12] at H
                exact absurd H (by simp)
            · rw [if_neg c11] at H
              exact absurd H (by simp)
          · rw [if_neg c9] at H
            have c9b0 : ((bt a0 t308) == 92) = false := beq_eq_false_iff_ne.mpr c9
            have c9b1 : ((bt a0 t308) != 92) = true := bne_iff_ne.mpr c9
            have H' := Aside0.mk H
            clear H
            have p8 : 0 ≤ (t308 : Int) := of_decide_eq_true (by first | (with_reducible assumption) | assumption)
            have q8 : t308 < (a0.size : Int) := of_decide_eq_true (by first | (with_reducible assumption) | assumption)
            have hx8 := bt_at a0 t308
            replace p8 := eq_true p8
            replace q8 := eq_true q8
            go_wp2
            go_meet
            case rel => exact ⟨_, (true), (by first | rfl | (simp; done) | (simp [*]; done)), H', ⟨by first | omega | exact Nat.le_refl _⟩, ⟨by repeat (first | (with_reducible first | exact HB.out | apply below_alloc | apply pw_below_drewN | apply below_drew1) | exact HB.out)⟩⟩
        · rw [if_neg c7] at H
          exact absurd H (by simp)
      · rw [if_neg c6] at H
        exact absurd H (by simp)
  case rest =>
    clear HC4
    try clear c1
    try clear p1
    try clear q1
    try clear hx1
    try clear p2
    try clear c3
    try clear c5
    try clear c5b0
    try clear c6
    try clear c6b0
    try clear p6
    try clear c7
    try clear c7b0
    try clear p8
    try clear q8
    try clear hx8
    try clear c9
    try clear c9b0
    try clear c9b1
    try clear c11
    try clear c11b0
    try clear c12
    try clear c12b0
    try clear p13
    try clear q13
    try clear hx13
    try clear p13
    try clear p8
    try clear q13
    try clear q8
    obtain ⟨kq, x29_3, rfl, HA, HJ3, HB⟩ := hcut
    cases kq with
    | zero => exact absurd HA.out (by simp [runnelref17_DocText.j0])
    | succ kj3 =>
      have H := HA.out
      clear HA
      simp only [runnelref17_DocText.j0] at H
      by_cases c14 : x29_3 = true
      · subst c14
        have H1 : (some ((⟨#[]⟩ : ByteArray), 0, 19)) = some (r1, r2, r3) := by rw [if_pos rfl] at H; exact H
        clear H
        have H := H1
        clear H1
        simp only [Option.some.injEq, Prod.mk.injEq] at H
        obtain ⟨rfl, rfl, rfl⟩ := H
        go_wp2
        go_ret3
        exact ⟨by first | rfl | (simp only [wrap_wrap]; done) | (simp only [wrap_wrap]; rfl) | (simp [errW_none, errW_some] <;> rfl) | (simp [*, errW_none, errW_some] <;> rfl), by repeat (first | (with_reducible first | exact HB.out | apply below_alloc | apply pw_below_drewN | apply below_drew1) | exact HB.out)⟩
      · replace c14 := Bool.eq_false_iff.mpr c14
        subst c14
        have H1 : (if (wrap64 (t308 + 2)) = (a0.size : Int) then (some ((⟨#[]⟩ : ByteArray), 0, 6)) else (runnelref17_DocText.l0 kj3 a0 (wrap64 (t308 + 2)) ([] : List Int))) = some (r1, r2, r3) := by rw [if_neg (show ¬ (false = true) by decide)] at H; exact H
        clear H
        have H := H1
        clear H1
        by_cases c15 : (wrap64 (t308 + 2)) = (a0.size : Int)
        · rw [if_pos c15] at H
          have c15b0 : ((wrap64 (t308 + 2)) == (a0.size : Int)) = true := beq_iff_eq.mpr c15
          have c15b1 : ((wrap64 (t308 + 2)) != (a0.size : Int)) = false := bne_eq_false_iff_eq.mpr c15
          clear c15
          simp only [Option.some.injEq, Prod.mk.injEq] at H
          obtain ⟨rfl, rfl, rfl⟩ := H
          go_wp2
          go_ret3
          exact ⟨by first | rfl | (simp only [wrap_wrap]; done) | (simp only [wrap_wrap]; rfl) | (simp [errW_none, errW_some] <;> rfl) | (simp [*, errW_none, errW_some] <;> rfl), by repeat (first | (with_reducible first | exact HB.out | apply below_alloc | apply pw_below_drewN | apply below_drew1) | exact HB.out)⟩
        · rw [if_neg c15] at H
          have c15b0 : ((wrap64 (t308 + 2)) == (a0.size : Int)) = false := beq_eq_false_iff_ne.mpr c15
          have c15b1 : ((wrap64 (t308 + 2)) != (a0.size : Int)) = true := bne_iff_ne.mpr c15
          have H' := Aside0.mk H
          clear H
          go_wp2
          go_loopg [7, 8] kj3 (fun kq v7 v8 w' => ∃ (x7_2 : Int) (x8_2 : List Int), v7 = .int .i64 x7_2 ∧ Aside0 (runnelref17_DocText.l0 kq a0 x7_2 x8_2 = some (r1, r2, r3)) ∧ Aside0 (kq ≤ kj3) ∧ Aside0 (Kd.R (Kd.int .u8) 5 w' w.heap.size (fun _ => True) v8 x8_2) ∧ Aside0 (Below w.heap.size w w'))
          case atStart => exact ⟨(wrap64 (t308 + 2)), (([] : List Int)), (by first | rfl | (simp; done) | (simp [*]; done)), H', ⟨Nat.le_refl _⟩, ⟨by first | exact Kd.R_nil _ _ _ _ _ | exact Kd.N_nil _ _ _ _ _ | exact Kd.V_nil _ _ _ _ _ | exact Kd.Q_nil _ _ _ _ _ | exact Kd.S_nil _ _ _ _ _⟩, ⟨by repeat (first | (with_reducible first | exact HB.out | apply below_alloc | apply pw_below_drewN | apply below_drew1) | exact HB.out)⟩⟩
          case round =>
            clear H'
            try clear c1
            try clear p1
            try clear q1
            try clear hx1
            try clear p2
            try clear c3
            try clear c5
            try clear c5b0
            try clear c6
            try clear c6b0
            try clear p6
            try clear c7
            try clear c7b0
            try clear p8
            try clear q8
            try clear hx8
            try clear c9
            try clear c9b0
            try clear c9b1
            try clear c11
            try clear c11b0
            try clear c12
            try clear c12b0
            try clear p13
            try clear q13
            try clear hx13
            try clear c14
            try clear c15
            try clear c15b0
            try clear c15b1
            try clear p1
            try clear p13
            try clear p2
            try clear p6
            try clear p8
            try clear q1
            try clear q13
            try clear q8
            obtain ⟨x7_2, x8_2, rfl, HA, HK2, HO_8, HB⟩ := hrel
            cases gk with
            | zero => exact absurd HA.out (by simp [runnelref17_DocText.l0])
            | succ k2 =>
              have H := HA.out
              clear HA
              simp only [runnelref17_DocText.l0] at H
              have HC16 := Aside0.mk H
              clear H
              go_upto_region 8 with (fail)
              go_cut [45] (fun v45 wc => ∃ (kq : Nat) (x45_15 : Bool), v45 = .bool x45_15 ∧ Aside0 (runnelref17_DocText.j2 kq a0 x7_2 x8_2 x45_15 = some (r1, r2, r3)) ∧ Aside0 (kq ≤ k2) ∧ Aside0 (Kd.R (Kd.int .u8) 5 wc w.heap.size (fun _ => True) u8 x8_2) ∧ Aside0 (Below w.heap.size w wc))
              case first =>
                have H := HC16.out
                clear HC16
                by_cases c17 : x7_2 < (a0.size : Int)
                · rw [if_pos c17] at H
                  have c17b0 : decide (x7_2 < (a0.size : Int)) = true := decide_eq_true c17
                  clear c17
                  (first | rw [c17b0] | (simp only [i64_w, i32_w]; rw [c17b0]) | skip)
                  by_cases c18 : 0 ≤ x7_2
                  · rw [if_pos c18] at H
                    have c18b0 : decide (0 ≤ x7_2) = true := decide_eq_true c18
                    clear c18
                    have H' := Aside0.mk H
                    clear H
                    have p19 : 0 ≤ (x7_2 : Int) := of_decide_eq_true (by first | (with_reducible assumption) | assumption)
                    have q19 : x7_2 < (a0.size : Int) := of_decide_eq_true (by first | (with_reducible assumption) | assumption)
                    have hx19 := bt_at a0 x7_2
                    replace p19 := eq_true p19
                    replace q19 := eq_true q19
                    go_wp2
                    go_meet
                    case rel => exact ⟨_, (((bt a0 x7_2) != 10)), (by first | rfl | (simp; done) | (simp [*]; done)), H', ⟨by have := HJ3.out; have := HK2.out; first | omega | exact Nat.le_refl _⟩, ⟨by (with_reducible repeat (first | apply Kd.R_alloc | apply Kd.R_drewN | apply Kd.R_drew)); exact HO_8.out⟩, ⟨by repeat (first | (with_reducible first | exact HB.out | apply below_alloc | apply pw_below_drewN | apply below_drew1) | exact HB.out)⟩⟩
                  · rw [if_neg c18] at H
                    exact absurd H (by simp)
                · rw [if_neg c17] at H
                  have c17b0 : decide (x7_2 < (a0.size : Int)) = false := decide_eq_false c17
                  clear c17
                  (first | rw [c17b0] | (simp only [i64_w, i32_w]; rw [c17b0]) | skip)
                  have H' := Aside0.mk H
                  clear H
                  go_wp2
                  go_meet
                  case rel => exact ⟨_, (false), (by first | rfl | (simp; done) | (simp [*]; done)), H', ⟨by have := HJ3.out; have := HK2.out; first | omega | exact Nat.le_refl _⟩, ⟨by (with_reducible repeat (first | apply Kd.R_alloc | apply Kd.R_drewN | apply Kd.R_drew)); exact HO_8.out⟩, ⟨by repeat (first | (with_reducible first | exact HB.out | apply below_alloc | apply pw_below_drewN | apply below_drew1) | exact HB.out)⟩⟩
              case rest =>
                clear HC16
                try clear c1
                try clear p1
                try clear q1
                try clear hx1
                try clear p2
                try clear c3
                try clear c5
                try clear c5b0
                try clear c6
                try clear c6b0
                try clear p6
                try clear c7
                try clear c7b0
                try clear p8
                try clear q8
                try clear hx8
                try clear c9
                try clear c9b0
                try clear c9b1
                try clear c11
                try clear c11b0
                try clear c12
                try clear c12b0
                try clear p13
                try clear q13
                try clear hx13
                try clear c14
                try clear c15
                try clear c15b0
                try clear c15b1
                try clear c17
                try clear c17b0
                try clear c18
                try clear c18b0
                try clear p19
                try clear q19
                try clear hx19
                try clear p1
                try clear p13
                try clear p19
                try clear p2
                try clear p6
                try clear p8
                try clear q1
                try clear q13
                try clear q19
                try clear q8
                obtain ⟨kq, x45_15, rfl, HA, HJ15, HO_8, HB⟩ := hcut
                cases kq with
                | zero => exact absurd HA.out (by simp [runnelref17_DocText.j2])
                | succ kj15 =>
                  have H := HA.out
                  clear HA
                  simp only [runnelref17_DocText.j2] at H
                  by_cases c20 : x45_15 = true
                  · subst c20
                    have H1 : (if 0 ≤ x7_2 then (if x7_2 < (a0.size : Int) then (if (bt a0 x7_2) = 92 then (if (wrap64 (x7_2 + 1)) = (a0.size : Int) then (some ((⟨#[]⟩ : ByteArray), 0, 6)) else (if 0 ≤ (wrap64 (x7_2 + 1)) then (if (wrap64 (x7_2 + 1)) < (a0.size : Int) then (if x8_2.length < 140737488355328 then (runnelref17_DocText.l0 kj15 a0 (wrap64 ((wrap64 (x7_2 + 1)) + 1)) (x8_2 ++ [bt a0 (wrap64 (x7_2 + 1))])) else (none)) else (none)) else (none))) else (if x8_2.length < 140737488355328 then (runnelref17_DocText.l0 kj15 a0 (wrap64 (x7_2 + 1)) (x8_2 ++ [bt a0 x7_2])) else (none))) else (none)) else (none)) = some (r1, r2, r3) := by rw [if_pos rfl] at H; exact H
                    clear H
                    have H := H1
                    clear H1
                    by_cases c21 : 0 ≤ x7_2
                    · rw [if_pos c21] at H
                      have c21b0 : decide (0 ≤ x7_2) = true := decide_eq_true c21
                      clear c21
                      by_cases c22 : x7_2 < (a0.size : Int)
                      · rw [if_pos c22] at H
                        have c22b0 : decide (x7_2 < (a0.size : Int)) = true := decide_eq_true c22
                        clear c22
                        by_cases c24 : (bt a0 x7_2) = 92
                        · rw [if_pos c24] at H
                          have c24b0 : ((bt a0 x7_2) == 92) = true := beq_iff_eq.mpr c24
                          have c24b1 : ((bt a0 x7_2) != 92) = false := bne_eq_false_iff_eq.mpr c24
                          clear c24
                          by_cases c25 : (wrap64 (x7_2 + 1)) = (a0.size : Int)
                          · rw [if_pos c25] at H
                            have c25b0 : ((wrap64 (x7_2 + 1)) == (a0.size : Int)) = true := beq_iff_eq.mpr c25
                            have c25b1 : ((wrap64 (x7_2 + 1)) != (a0.size : Int)) = false := bne_eq_false_iff_eq.mpr c25
                            clear c25
                            simp only [Option.some.injEq, Prod.mk.injEq] at H
                            obtain ⟨rfl, rfl, rfl⟩ := H
                            have p23 : 0 ≤ (x7_2 : Int) := of_decide_eq_true (by first | (with_reducible assumption) | assumption)
                            have q23 : x7_2 < (a0.size : Int) := of_decide_eq_true (by first | (with_reducible assumption) | assumption)
                            have hx23 := bt_at a0 x7_2
                            replace p23 := eq_true p23
                            replace q23 := eq_true q23
                            go_wp2
                            go_ret3
                            exact ⟨by first | rfl | (simp only [wrap_wrap]; done) | (simp only [wrap_wrap]; rfl) | (simp [errW_none, errW_some] <;> rfl) | (simp [*, errW_none, errW_some] <;> rfl), by repeat (first | (with_reducible first | exact HB.out | apply below_alloc | apply pw_below_drewN | apply below_drew1) | exact HB.out)⟩
                          · rw [if_neg c25] at H
                            have c25b0 : ((wrap64 (x7_2 + 1)) == (a0.size : Int)) = false := beq_eq_false_iff_ne.mpr c25
                            have c25b1 : ((wrap64 (x7_2 + 1)) != (a0.size : Int)) = true := bne_iff_ne.mpr c25
                            obtain ⟨ji26, hji26⟩ : ∃ j_ : Int, (wrap64 (x7_2 + 1)) = j_ := ⟨_, rfl⟩
                            replace H : (if 0 ≤ (ji26) then (if (ji26) < (a0.size : Int) then (if x8_2.length < 140737488355328 then (runnelref17_DocText.l0 kj15 a0 (wrap64 ((ji26) + 1)) (x8_2 ++ [bt a0 (ji26)])) else (none)) else (none)) else (none)) = some (r1, r2, r3) := by first | (rw [hji26] at H; exact H) | (simp only [hji26] at H ⊢; exact H)
                            (try rw [hji26] at c25b0)
                            (try rw [hji26] at c25b1)
                            have hji26w : (IntKind.i64.wrap (x7_2 + 1)) = ji26 := (i64_w _).trans hji26
                            by_cases c27 : 0 ≤ (ji26)
                            · rw [if_pos c27] at H
                              have c27b0 : decide (0 ≤ (ji26)) = true := decide_eq_true c27
                              clear c27
                              by_cases c28 : (ji26) < (a0.size : Int)
                              · rw [if_pos c28] at H
                                have c28b0 : decide ((ji26) < (a0.size : Int)) = true := decide_eq_true c28
                                clear c28
                                by_cases c30 : x8_2.length < 140737488355328
                                · rw [if_pos c30] at H
                                  have LMc30 := Aside0.mk c30
                                  clear c30
                                  obtain ⟨y315, hy315⟩ : ∃ y_ : List Int, y_ = (x8_2 ++ [bt a0 (ji26)]) := ⟨_, rfl⟩
                                  replace H : (runnelref17_DocText.l0 kj15 a0 (wrap64 ((ji26) + 1)) y315) = some (r1, r2, r3) := by first | (rw [hy315]; with_reducible exact H) | (have H2_ := (Option.bind_some _ _).symm.trans H; rw [hy315]; with_reducible exact H2_) | (have H2_ := (Option.bind_some _ _).symm.trans H; with_reducible exact H2_) | with_reducible exact H | (rw [hy315]; exact H) | exact H
                                  have Ny315 := Aside0.mk hy315
                                  clear hy315
                                  have H' := Aside0.mk H
                                  clear H
                                  have p23 : 0 ≤ (x7_2 : Int) := of_decide_eq_true (by first | (with_reducible assumption) | assumption)
                                  have q23 : x7_2 < (a0.size : Int) := of_decide_eq_true (by first | (with_reducible assumption) | assumption)
                                  have hx23 := bt_at a0 x7_2
                                  replace p23 := eq_true p23
                                  replace q23 := eq_true q23
                                  have p29 : 0 ≤ ((ji26) : Int) := of_decide_eq_true (by first | (with_reducible assumption) | assumption)
                                  have q29 : (ji26) < (a0.size : Int) := of_decide_eq_true (by first | (with_reducible assumption) | assumption)
                                  have hx29 := bt_at a0 (ji26)
                                  replace p29 := eq_true p29
                                  replace q29 := eq_true q29
                                  go_wp2_with (first | ((with_reducible refine gate_builtin (b := .append) (xs := #[.tmp 56, .tmp 60]) rfl ?_); at_builtin; refine Kd.R_append (Kd.int .u8) (w0 := w) w.heap.size rfl (.tmp 56) (.tmp 60) 39 5 (.int .u8 0) 1 rfl Try.underlying39 info5 rfl (by decide) (by omega) u8 x8_2 (bt a0 (ji26)) [.int .u8 (bt a0 (ji26))] (fun _ => True) (fun _ => False) rfl rfl ?aP (fun _ hk => hk.elim) ?aF ?aO ?aB ?aS ?aL ?_; (case aP => exact rfl); (case aB => exact (by repeat (first | (with_reducible first | exact HB.out | apply below_alloc | apply pw_below_drewN | apply below_drew1) | exact HB.out))); (case aF => exact (fun _ _ => trivial)); (case aO => exact (by (with_reducible repeat (first | apply Kd.R_alloc | apply Kd.R_drewN | apply Kd.R_drew)); exact HO_8.out)); (case aS => exact (below_size (by repeat (first | (with_reducible first | exact HB.out | apply below_alloc | apply pw_below_drewN | apply below_drew1) | exact HB.out)))); (case aL => have := LMc30.out; omega); intro v316 w31 ho hb hg hat; rw [← Ny315.out] at ho; have n0_ := Aside0.mk (hb); have n1_ := Aside0.mk (ho); clear HB; clear HO_8; have HB := n0_; have HO317 := n1_; clear n0_ n1_; clear ho hb hg hat))
                                  go_roundg kj15
                                  case measure => have := HJ3.out; have := HK2.out; have := HJ15.out; omega
                                  case rel => exact ⟨(wrap64 ((ji26) + 1)), (y315), (by first | rfl | (simp; done) | (simp only [← hji26] <;> (first | rfl | simp)) | (simp [*]; done)), (by first | exact H' | (simp only [hji26]; exact H')), ⟨by have := HJ3.out; have := HK2.out; have := HJ15.out; omega⟩, ⟨by (with_reducible repeat (first | apply Kd.R_alloc | apply Kd.R_drewN | apply Kd.R_drew)); exact HO317.out⟩, ⟨by repeat (first | (with_reducible first | exact HB.out | apply below_alloc | apply pw_below_drewN | apply below_drew1) | exact HB.out)⟩⟩
                                · rw [if_neg c30] at H
                                  exact absurd H (by simp)
                              · rw [if_neg c28] at H
                                exact absurd H (by simp)
                            · rw [if_neg c27] at H
                              exact absurd H (by simp)
                        · rw [if_neg c24] at H
                          have c24b0 : ((bt a0 x7_2) == 92) = false := beq_eq_false_iff_ne.mpr c24
                          have c24b1 : ((bt a0 x7_2) != 92) = true := bne_iff_ne.mpr c24
                          by_cases c33 : x8_2.length < 140737488355328
                          · rw [if_pos c33] at H
                            have LMc33 := Aside0.mk c33
                            clear c33
                            obtain ⟨y318, hy318⟩ : ∃ y_ : List Int, y_ = (x8_2 ++ [bt a0 x7_2]) := ⟨_, rfl⟩
                            replace H : (runnelref17_DocText.l0 kj15 a0 (wrap64 (x7_2 + 1)) y318) = some (r1, r2, r3) := by first | (rw [hy318]; with_reducible exact H) | (have H2_ := (Option.bind_some _ _).symm.trans H; rw [hy318]; with_reducible exact H2_) | (have H2_ := (Option.bind_some _ _).symm.trans H; with_reducible exact H2_) | with_reducible exact H | (rw [hy318]; exact H) | exact H
                            have Ny318 := Aside0.mk hy318
                            clear hy318
                            have H' := Aside0.mk H
                            clear H
                            have p23 : 0 ≤ (x7_2 : Int) := of_decide_eq_true (by first | (with_reducible assumption) | assumption)
                            have q23 : x7_2 < (a0.size : Int) := of_decide_eq_true (by first | (with_reducible assumption) | assumption)
                            have hx23 := bt_at a0 x7_2
                            replace p23 := eq_true p23
                            replace q23 := eq_true q23
                            have p32 : 0 ≤ (x7_2 : Int) := of_decide_eq_true (by first | (with_reducible assumption) | assumption)
                            have q32 : x7_2 < (a0.size : Int) := of_decide_eq_true (by first | (with_reducible assumption) | assumption)
                            have hx32 := bt_at a0 x7_2
                            replace p32 := eq_true p32
                            replace q32 := eq_true q32
                            go_wp2_with (first | ((with_reducible refine gate_builtin (b := .append) (xs := #[.tmp 56, .tmp 60]) rfl ?_); at_builtin; refine Kd.R_append (Kd.int .u8) (w0 := w) w.heap.size rfl (.tmp 56) (.tmp 60) 39 5 (.int .u8 0) 1 rfl Try.underlying39 info5 rfl (by decide) (by omega) u8 x8_2 (bt a0 x7_2) [.int .u8 (bt a0 x7_2)] (fun _ => True) (fun _ => False) rfl rfl ?aP (fun _ hk => hk.elim) ?aF ?aO ?aB ?aS ?aL ?_; (case aP => exact rfl); (case aB => exact (by repeat (first | (with_reducible first | exact HB.out | apply below_alloc | apply pw_below_drewN | apply below_drew1) | exact HB.out))); (case aF => exact (fun _ _ => trivial)); (case aO => exact (by (with_reducible repeat (first | apply Kd.R_alloc | apply Kd.R_drewN | apply Kd.R_drew)); exact HO_8.out)); (case aS => exact (below_size (by repeat (first | (with_reducible first | exact HB.out | apply below_alloc | apply pw_below_drewN | apply below_drew1) | exact HB.out)))); (case aL => have := LMc33.out; omega); intro v319 w34 ho hb hg hat; rw [← Ny318.out] at ho; have n0_ := Aside0.mk (hb); have n1_ := Aside0.mk (ho); clear HB; clear HO_8; have HB := n0_; have HO320 := n1_; clear n0_ n1_; clear ho hb hg hat))
                            go_roundg kj15
                            case measure => have := HJ3.out; have := HK2.out; have := HJ15.out; omega
                            case rel => exact ⟨(wrap64 (x7_2 + 1)), (y318), (by first | rfl | (simp; done) | (simp [*]; done)), H', ⟨by have := HJ3.out; have := HK2.out; have := HJ15.out; omega⟩, ⟨by (with_reducible repeat (first | apply Kd.R_alloc | apply Kd.R_drewN | apply Kd.R_drew)); exact HO320.out⟩, ⟨by repeat (first | (with_reducible first | exact HB.out | apply below_alloc | apply pw_below_drewN | apply below_drew1) | exact HB.out)⟩⟩
                          · rw [if_neg c33] at H
                            exact absurd H (by simp)
                      · rw [if_neg c22] at H
                        exact absurd H (by simp)
                    · rw [if_neg c21] at H
                      exact absurd H (by simp)
                  · replace c20 := Bool.eq_false_iff.mpr c20
                    subst c20
                    have H1 : (if x7_2 < (a0.size : Int) then (if x8_2.length < 140737488355328 then (some (strOfNums (x8_2 ++ [10]), wrap64 (x7_2 + 1), 0)) else (none)) else (if x8_2.length < 140737488355328 then (some (strOfNums (x8_2 ++ [10]), x7_2, 0)) else (none))) = some (r1, r2, r3) := by rw [if_neg (show ¬ (false = true) by decide)] at H; exact H
                    clear H
                    have H := H1
                    clear H1
                    by_cases c35 : x7_2 < (a0.size : Int)
                    · rw [if_pos c35] at H
                      have c35b0 : decide (x7_2 < (a0.size : Int)) = true := decide_eq_true c35
                      clear c35
                      by_cases c36 : x8_2.length < 140737488355328
                      · rw [if_pos c36] at H
                        have LMc36 := Aside0.mk c36
                        clear c36
                        obtain ⟨y309, hy309⟩ : ∃ y_ : List Int, y_ = (x8_2 ++ [10]) := ⟨_, rfl⟩
                        replace H : (some (strOfNums y309, wrap64 (x7_2 + 1), 0)) = some (r1, r2, r3) := by first | (rw [hy309]; with_reducible exact H) | (have H2_ := (Option.bind_some _ _).symm.trans H; rw [hy309]; with_reducible exact H2_) | (have H2_ := (Option.bind_some _ _).symm.trans H; with_reducible exact H2_) | with_reducible exact H | (rw [hy309]; exact H) | exact H
                        have Ny309 := Aside0.mk hy309
                        clear hy309
                        simp only [Option.some.injEq, Prod.mk.injEq] at H
                        obtain ⟨rfl, rfl, rfl⟩ := H
                        go_wp2_with (first | ((with_reducible refine gate_builtin (b := .append) (xs := #[.tmp 70, .tmp 71]) rfl ?_); at_builtin; refine Kd.R_append (Kd.int .u8) (w0 := w) w.heap.size rfl (.tmp 70) (.tmp 71) 39 5 (.int .u8 0) 1 rfl Try.underlying39 info5 rfl (by decide) (by omega) u8 x8_2 10 [.int .u8 10] (fun _ => True) (fun _ => False) rfl rfl ?aP (fun _ hk => hk.elim) ?aF ?aO ?aB ?aS ?aL ?_; (case aP => exact rfl); (case aB => exact (by repeat (first | (with_reducible first | exact HB.out | apply below_alloc | apply pw_below_drewN | apply below_drew1) | exact HB.out))); (case aF => exact (fun _ _ => trivial)); (case aO => exact (by (with_reducible repeat (first | apply Kd.R_alloc | apply Kd.R_drewN | apply Kd.R_drew)); exact HO_8.out)); (case aS => exact (below_size (by repeat (first | (with_reducible first | exact HB.out | apply below_alloc | apply pw_below_drewN | apply below_drew1) | exact HB.out)))); (case aL => have := LMc36.out; omega); intro v310 w37 ho hb hg hat; rw [← Ny309.out] at ho; have n0_ := Aside0.mk (hb); have n1_ := Aside0.mk (ho); clear HB; clear HO_8; have HB := n0_; have HO311 := n1_; clear n0_ n1_; clear ho hb hg hat; have hcv38 := own_string (P := Try.prog) Try.underlying39 Try.underlying5 Try.underlying9 (Kd.own_of_R HO311.out)))
                        go_ret3
                        exact ⟨by first | rfl | (simp only [wrap_wrap]; done) | (simp only [wrap_wrap]; rfl) | (simp [errW_none, errW_some] <;> rfl) | (simp [*, errW_none, errW_some] <;> rfl), by repeat (first | (with_reducible first | exact HB.out | apply below_alloc | apply pw_below_drewN | apply below_drew1) | exact HB.out)⟩
                      · rw [if_neg c36] at H
                        exact absurd H (by simp)
                    · rw [if_neg c35] at H
                      have c35b0 : decide (x7_2 < (a0.size : Int)) = false := decide_eq_false c35
                      clear c35
                      by_cases c39 : x8_2.length < 140737488355328
                      · rw [if_pos c39] at H
                        have LMc39 := Aside0.mk c39
                        clear c39
                        obtain ⟨y312, hy312⟩ : ∃ y_ : List Int, y_ = (x8_2 ++ [10]) := ⟨_, rfl⟩
                        replace H : (some (strOfNums y312, x7_2, 0)) = some (r1, r2, r3) := by first | (rw [hy312]; with_reducible exact H) | (have H2_ := (Option.bind_some _ _).symm.trans H; rw [hy312]; with_reducible exact H2_) | (have H2_ := (Option.bind_some _ _).symm.trans H; with_reducible exact H2_) | with_reducible exact H | (rw [hy312]; exact H) | exact H
                        have Ny312 := Aside0.mk hy312
                        clear hy312
                        simp only [Option.some.injEq, Prod.mk.injEq] at H
                        obtain ⟨rfl, rfl, rfl⟩ := H
                        go_wp2_with (first | ((with_reducible refine gate_builtin (b := .append) (xs := #[.tmp 70, .tmp 71]) rfl ?_); at_builtin; refine Kd.R_append (Kd.int .u8) (w0 := w) w.heap.size rfl (.tmp 70) (.tmp 71) 39 5 (.int .u8 0) 1 rfl Try.underlying39 info5 rfl (by decide) (by omega) u8 x8_2 10 [.int .u8 10] (fun _ => True) (fun _ => False) rfl rfl ?aP (fun _ hk => hk.elim) ?aF ?aO ?aB ?aS ?aL ?_; (case aP => exact rfl); (case aB => exact (by repeat (first | (with_reducible first | exact HB.out | apply below_alloc | apply pw_below_drewN | apply below_drew1) | exact HB.out))); (case aF => exact (fun _ _ => trivial)); (case aO => exact (by (with_reducible repeat (first | apply Kd.R_alloc | apply Kd.R_drewN | apply Kd.R_drew)); exact HO_8.out)); (case aS => exact (below_size (by repeat (first | (with_reducible first | exact HB.out | apply below_alloc | apply pw_below_drewN | apply below_drew1) | exact HB.out)))); (case aL => have := LMc39.out; omega); intro v313 w40 ho hb hg hat; rw [← Ny312.out] at ho; have n0_ := Aside0.mk (hb); have n1_ := Aside0.mk (ho); clear HB; clear HO_8; have HB := n0_; have HO314 := n1_; clear n0_ n1_; clear ho hb hg hat; have hcv41 := own_string (P := Try.prog) Try.underlying39 Try.underlying5 Try.underlying9 (Kd.own_of_R HO314.out)))
                        go_ret3
                        exact ⟨by first | rfl | (simp only [wrap_wrap]; done) | (simp only [wrap_wrap]; rfl) | (simp [errW_none, errW_some] <;> rfl) | (simp [*, errW_none, errW_some] <;> rfl), by repeat (first | (with_reducible first | exact HB.out | apply below_alloc | apply pw_below_drewN | apply below_drew1) | exact HB.out)⟩
                      · rw [if_neg c39] at H
                        exact absurd H (by simp)

end Go.Proofs.Ytdlbmajilmmapaa.F
