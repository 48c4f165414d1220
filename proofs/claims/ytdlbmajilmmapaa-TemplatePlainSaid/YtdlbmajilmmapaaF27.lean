-- Made by a program of this session (wip/tools/pr.py over the kit's printer). Not trusted: Lean checks it.
import Derived.Test.YtdlbmajilmmapaaFx
namespace Go.Proofs.Ytdlbmajilmmapaa.F
open Go.RowKit Go.Proofs.YtdlbmajilmmapaaW.PrintWords Go.Proofs.YtdlbmajilmmapaaW.PrintLast Go.Proofs.YtdlbmajilmmapaaW.PrintMore
attribute [local go_sem] max2_int min2_int max_two min_two max_three min_three max_four min_four
set_option linter.unusedVariables false
set_option linter.unusedSimpArgs false

/-! ### runnelref13_DocBuild: function 27 -/
mutual
def runnelref13_DocBuild.l0 : Nat → List (S117) → ByteArray → List (S55) → List Int → Int → Option (ByteArray × Int)
  | 0, _, _, _, _, _ => none
  | k + 1, x0, x1, x2, x8, x9 => if x9 < (x0.length : Int) then (if 0 ≤ x9 then (if ((rd_T117 x0 x9).f0) < (-1) then (some ((⟨#[]⟩ : ByteArray), 1)) else (if ((rd_T117 x0 x9).f0) ≥ 0 then (if ((rd_T117 x0 x9).f0) < (x2.length : Int) then (if 0 ≤ ((rd_T117 x0 x9).f0) then (if ((rd_T55 x2 ((rd_T117 x0 x9).f0)).f0) ≥ 0 then (if ((rd_T55 x2 ((rd_T117 x0 x9).f0)).f0) ≤ ((rd_T55 x2 ((rd_T117 x0 x9).f0)).f1) then (runnelref13_DocBuild.j1 k x0 x1 x2 x8 x9 ((rd_T117 x0 x9).f0) (⟨#[]⟩ : ByteArray) (decide (((rd_T55 x2 ((rd_T117 x0 x9).f0)).f1) ≤ (x1.size : Int)))) else (runnelref13_DocBuild.j1 k x0 x1 x2 x8 x9 ((rd_T117 x0 x9).f0) (⟨#[]⟩ : ByteArray) false)) else (runnelref13_DocBuild.j1 k x0 x1 x2 x8 x9 ((rd_T117 x0 x9).f0) (⟨#[]⟩ : ByteArray) false)) else (none)) else (runnelref13_DocBuild.j1 k x0 x1 x2 x8 x9 ((rd_T117 x0 x9).f0) (⟨#[]⟩ : ByteArray) false)) else (if (wrap64 ((x8.length : Int) + (((rd_T117 x0 x9).f1).size : Int))) > 1024 then (some ((⟨#[]⟩ : ByteArray), 15)) else (if x8.length + ((rd_T117 x0 x9).f1).size < 140737488355328 then (runnelref13_DocBuild.l0 k x0 x1 x2 (x8 ++ bytesOf ((rd_T117 x0 x9).f1)) (wrap64 (x9 + 1))) else (none))))) else (none)) else (some (strOfNums x8, 0))
def runnelref13_DocBuild.j1 : Nat → List (S117) → ByteArray → List (S55) → List Int → Int → Int → ByteArray → Bool → Option (ByteArray × Int)
  | 0, _, _, _, _, _, _, _, _ => none
  | k + 1, x0, x1, x2, x8, x9, x10, x11, x66 => if x66 = true then (if 0 ≤ x10 then (if x10 < (x2.length : Int) then (if 0 ≤ ((rd_T55 x2 x10).f0) then (if ((rd_T55 x2 x10).f0) ≤ ((rd_T55 x2 x10).f1) then (if ((rd_T55 x2 x10).f1) ≤ (x1.size : Int) then (if (wrap64 ((x8.length : Int) + ((x1.extract (((rd_T55 x2 x10).f0) : Int).toNat (((rd_T55 x2 x10).f1) : Int).toNat).size : Int))) > 1024 then (some ((⟨#[]⟩ : ByteArray), 15)) else (if x8.length + (x1.extract (((rd_T55 x2 x10).f0) : Int).toNat (((rd_T55 x2 x10).f1) : Int).toNat).size < 140737488355328 then (runnelref13_DocBuild.l0 k x0 x1 x2 (x8 ++ bytesOf (x1.extract (((rd_T55 x2 x10).f0) : Int).toNat (((rd_T55 x2 x10).f1) : Int).toNat)) (wrap64 (x9 + 1))) else (none))) else (none)) else (none)) else (none)) else (none)) else (none)) else (if (wrap64 ((x8.length : Int) + (x11.size : Int))) > 1024 then (some ((⟨#[]⟩ : ByteArray), 15)) else (if x8.length + x11.size < 140737488355328 then (runnelref13_DocBuild.l0 k x0 x1 x2 (x8 ++ bytesOf x11) (wrap64 (x9 + 1))) else (none)))
end
def runnelref13_DocBuild.f (k : Nat) (l0 : List (S117)) (a1 : ByteArray) (l2 : List (S55)) : Option (ByteArray × Int) := runnelref13_DocBuild.l0 k l0 a1 l2 ([] : List Int) 0
theorem runnelref13_DocBuild.mono_l : ∀ k, (∀ y0 y1 y2 y3 y4, LeO (runnelref13_DocBuild.l0 k y0 y1 y2 y3 y4) (runnelref13_DocBuild.l0 (k + 1) y0 y1 y2 y3 y4)) ∧ (∀ y0 y1 y2 y3 y4 y5 y6 y7, LeO (runnelref13_DocBuild.j1 k y0 y1 y2 y3 y4 y5 y6 y7) (runnelref13_DocBuild.j1 (k + 1) y0 y1 y2 y3 y4 y5 y6 y7))
  | 0 => ⟨fun _ _ _ _ _ r h => by simp [runnelref13_DocBuild.l0] at h, fun _ _ _ _ _ _ _ _ r h => by simp [runnelref13_DocBuild.j1] at h⟩
  | k + 1 => by
    obtain ⟨ih0, ih1⟩ := runnelref13_DocBuild.mono_l k
    refine ⟨?_, ?_⟩
    · intro y0 y1 y2 y3 y4
      unfold runnelref13_DocBuild.l0
      repeat' first
      | (with_reducible exact ih0 _ _ _ _ _)
      | (with_reducible exact ih1 _ _ _ _ _ _ _ _)
      | (with_reducible exact LeO.refl _)
      | (with_reducible exact LeO.none _)
      | (with_reducible refine LeO.ite ?_ ?_)
      | (with_reducible refine LeO.bind ?_ (fun _ => ?_))
      | exact ih0 _ _ _ _ _
      | exact ih1 _ _ _ _ _ _ _ _
      | exact LeO.none _
      | refine LeO.ite ?_ ?_
      | refine LeO.bind ?_ (fun _ => ?_)
    · intro y0 y1 y2 y3 y4 y5 y6 y7
      unfold runnelref13_DocBuild.j1
      repeat' first
      | (with_reducible exact ih0 _ _ _ _ _)
      | (with_reducible exact ih1 _ _ _ _ _ _ _ _)
      | (with_reducible exact LeO.refl _)
      | (with_reducible exact LeO.none _)
      | (with_reducible refine LeO.ite ?_ ?_)
      | (with_reducible refine LeO.bind ?_ (fun _ => ?_))
      | exact ih0 _ _ _ _ _
      | exact ih1 _ _ _ _ _ _ _ _
      | exact LeO.none _
      | refine LeO.ite ?_ ?_
      | refine LeO.bind ?_ (fun _ => ?_)
theorem runnelref13_DocBuild.mono : ∀ a0 a1 a2 k, LeO (runnelref13_DocBuild.f k a0 a1 a2) (runnelref13_DocBuild.f (k + 1) a0 a1 a2) := by
  intro a0 a1 a2 k
  obtain ⟨ih0, ih1⟩ := runnelref13_DocBuild.mono_l k
  unfold runnelref13_DocBuild.f
  repeat' first
      | (with_reducible exact ih0 _ _ _ _ _)
      | (with_reducible exact ih1 _ _ _ _ _ _ _ _)
      | (with_reducible exact LeO.refl _)
      | (with_reducible exact LeO.none _)
      | (with_reducible refine LeO.ite ?_ ?_)
      | (with_reducible refine LeO.bind ?_ (fun _ => ?_))
      | exact ih0 _ _ _ _ _
      | exact ih1 _ _ _ _ _ _ _ _
      | exact LeO.none _
      | refine LeO.ite ?_ ?_
      | refine LeO.bind ?_ (fun _ => ?_)
set_option maxHeartbeats 8000000 in
set_option maxRecDepth 100000 in
theorem runnelref13_DocBuild.calls (k : Nat) (A0 : Option Addr) (c0 : Nat) (l0 : List (S117)) (a1 : ByteArray) (A2 : Option Addr) (c2 : Nat) (l2 : List (S55)) (r1 : ByteArray) (r2 : Int) (w : World) (hr0 : Kd.C k117 w A0 l0.length l0) (hc0 : l0.length ≤ c0) (hr2 : Kd.C k55 w A2 l2.length l2) (hc2 : l2.length ≤ c2) (h : runnelref13_DocBuild.f k l0 a1 l2 = some (r1, r2)) :
    Calls Try.prog 27 #[.slice A0 l0.length c0, .string a1, .slice A2 l2.length c2] w fun e w' => e = .returned (.tuple #[.string r1, .int .i64 r2]) ∧ Below w.heap.size w w' := by
  have HR0 := Aside0.mk hr0
  have HC0 := Aside0.mk hc0
  clear hr0 hc0
  have HR2 := Aside0.mk hr2
  have HC2 := Aside0.mk hc2
  clear hr2 hc2
  have HB := Aside0.mk (Below.refl w.heap.size w)
  have H : (runnelref13_DocBuild.l0 k l0 a1 l2 ([] : List Int) 0) = some (r1, r2) := h
  clear h
  have H' := Aside0.mk H
  clear H
  go_enter Try.func27, Try.ntmps27
  go_wp2
  repeat (go_quiet (fail); try go_wp2)
  go_loopg [8, 9] k (fun kq v8 v9 w' => ∃ (x8_1 : List Int) (x9_1 : Int), v9 = .int .i64 x9_1 ∧ Aside0 (runnelref13_DocBuild.l0 kq l0 a1 l2 x8_1 x9_1 = some (r1, r2)) ∧ Aside0 (kq ≤ k) ∧ Aside0 (Kd.R (Kd.int .u8) 5 w' w.heap.size (fun _ => True) v8 x8_1) ∧ Aside0 (Below w.heap.size w w'))
  case atStart => exact ⟨(([] : List Int)), (0), (by first | rfl | (simp; done) | (simp [*]; done)), H', ⟨Nat.le_refl _⟩, ⟨by first | exact Kd.R_nil _ _ _ _ _ | exact Kd.N_nil _ _ _ _ _ | exact Kd.V_nil _ _ _ _ _ | exact Kd.Q_nil _ _ _ _ _ | exact Kd.S_nil _ _ _ _ _⟩, ⟨by repeat (first | (with_reducible first | exact HB.out | apply below_alloc | apply pw_below_drewN | apply below_drew1) | exact HB.out)⟩⟩
  case round =>
    clear H'
    try clear c2
    try clear p2
    obtain ⟨x8_1, x9_1, rfl, HA, HK1, HO_8, HB⟩ := hrel
    cases gk with
    | zero => exact absurd HA.out (by simp [runnelref13_DocBuild.l0])
    | succ k1 =>
      have H := HA.out
      clear HA
      simp only [runnelref13_DocBuild.l0] at H
      by_cases c4 : x9_1 < (l0.length : Int)
      · rw [if_pos c4] at H
        have c4b0 : decide (x9_1 < (l0.length : Int)) = true := decide_eq_true c4
        clear c4
        by_cases c5 : 0 ≤ x9_1
        · rw [if_pos c5] at H
          have c5b0 : decide (0 ≤ x9_1) = true := decide_eq_true c5
          clear c5
          by_cases c6 : ((rd_T117 l0 x9_1).f0) < (-1)
          · rw [if_pos c6] at H
            have c6b0 : decide (((rd_T117 l0 x9_1).f0) < (-1)) = true := decide_eq_true c6
            clear c6
            simp only [Option.some.injEq, Prod.mk.injEq] at H
            obtain ⟨rfl, rfl⟩ := H
            have p225 : 0 ≤ (x9_1 : Int) := of_decide_eq_true (by first | (with_reducible assumption) | assumption)
            have q225 : x9_1 < (l0.length : Int) := of_decide_eq_true (by first | (with_reducible assumption) | assumption)
            obtain ⟨ad225, e225, hx225_0, hx225_1⟩ := at_T117 HR0.out x9_1 p225 q225
            cases e225
            replace hx225_0 := (HB.out.cell (World.block_lt_of_cell? w _ hx225_0)).trans hx225_0
            replace hx225_1 := (HB.out.cell (World.block_lt_of_cell? w _ hx225_1)).trans hx225_1
            replace p225 := eq_true p225
            replace q225 := eq_true q225
            have p226 : 0 ≤ (x9_1 : Int) := of_decide_eq_true (by first | (with_reducible assumption) | assumption)
            have q226 : x9_1 < (l0.length : Int) := of_decide_eq_true (by first | (with_reducible assumption) | assumption)
            obtain ⟨ad226, e226, hx226_0, hx226_1⟩ := at_T117 HR0.out x9_1 p226 q226
            obtain rfl : ad225 = ad226 := (by injection e226)
            replace hx226_0 := (HB.out.cell (World.block_lt_of_cell? w _ hx226_0)).trans hx226_0
            replace hx226_1 := (HB.out.cell (World.block_lt_of_cell? w _ hx226_1)).trans hx226_1
            replace p226 := eq_true p226
            replace q226 := eq_true q226
            go_wp2
            repeat (go_quiet (fail); try go_wp2)
            go_ret2
            exact ⟨by first | rfl | (simp only [wrap_wrap]; done) | (simp only [wrap_wrap]; rfl) | (simp [errW_none, errW_some] <;> rfl) | (simp [*, errW_none, errW_some] <;> rfl), by repeat (first | (with_reducible first | exact HB.out | apply below_alloc | apply pw_below_drewN | apply below_drew1) | exact HB.out)⟩
          · rw [if_neg c6] at H
            have c6b0 : decide (((rd_T117 l0 x9_1).f0) < (-1)) = false := decide_eq_false c6
            clear c6
            by_cases c7 : ((rd_T117 l0 x9_1).f0) ≥ 0
            · rw [if_pos c7] at H
              have c7b0 : decide (0 ≤ ((rd_T117 l0 x9_1).f0)) = true := decide_eq_true c7
              clear c7
              have HC8 := Aside0.mk H
              clear H
              have p225 : 0 ≤ (x9_1 : Int) := of_decide_eq_true (by first | (with_reducible assumption) | assumption)
              have q225 : x9_1 < (l0.length : Int) := of_decide_eq_true (by first | (with_reducible assumption) | assumption)
              obtain ⟨ad225, e225, hx225_0, hx225_1⟩ := at_T117 HR0.out x9_1 p225 q225
              cases e225
              replace hx225_0 := (HB.out.cell (World.block_lt_of_cell? w _ hx225_0)).trans hx225_0
              replace hx225_1 := (HB.out.cell (World.block_lt_of_cell? w _ hx225_1)).trans hx225_1
              replace p225 := eq_true p225
              replace q225 := eq_true q225
              have p226 : 0 ≤ (x9_1 : Int) := of_decide_eq_true (by first | (with_reducible assumption) | assumption)
              have q226 : x9_1 < (l0.length : Int) := of_decide_eq_true (by first | (with_reducible assumption) | assumption)
              obtain ⟨ad226, e226, hx226_0, hx226_1⟩ := at_T117 HR0.out x9_1 p226 q226
              obtain rfl : ad225 = ad226 := (by injection e226)
              replace hx226_0 := (HB.out.cell (World.block_lt_of_cell? w _ hx226_0)).trans hx226_0
              replace hx226_1 := (HB.out.cell (World.block_lt_of_cell? w _ hx226_1)).trans hx226_1
              replace p226 := eq_true p226
              replace q226 := eq_true q226
              go_upto_region 11 with (fail)
              repeat (go_quiet (fail); go_upto_region 11 with (fail))
              go_cut [66] (fun v66 wc => ∃ (kq : Nat) (x66_7 : Bool), v66 = .bool x66_7 ∧ Aside0 (runnelref13_DocBuild.j1 kq l0 a1 l2 x8_1 x9_1 ((rd_T117 l0 x9_1).f0) (⟨#[]⟩ : ByteArray) x66_7 = some (r1, r2)) ∧ Aside0 (kq ≤ k1) ∧ Aside0 (Kd.R (Kd.int .u8) 5 wc w.heap.size (fun _ => True) u8 x8_1) ∧ Aside0 (Below w.heap.size w wc))
              case first =>
                have H := HC8.out
                clear HC8
                by_cases c9 : ((rd_T117 l0 x9_1).f0) < (l2.length : Int)
                · rw [if_pos c9] at H
                  have c9b0 : decide (((rd_T117 l0 x9_1).f0) < (l2.length : Int)) = true := decide_eq_true c9
                  clear c9
                  (first | rw [c9b0] | (simp only [i64_w, i32_w]; rw [c9b0]) | skip)
                  by_cases c10 : 0 ≤ ((rd_T117 l0 x9_1).f0)
                  · rw [if_pos c10] at H
                    have c10b0 : decide (0 ≤ ((rd_T117 l0 x9_1).f0)) = true := decide_eq_true c10
                    clear c10
                    by_cases c11 : ((rd_T55 l2 ((rd_T117 l0 x9_1).f0)).f0) ≥ 0
                    · rw [if_pos c11] at H
                      have c11b0 : decide (0 ≤ ((rd_T55 l2 ((rd_T117 l0 x9_1).f0)).f0)) = true := decide_eq_true c11
                      clear c11
                      by_cases c12 : ((rd_T55 l2 ((rd_T117 l0 x9_1).f0)).f0) ≤ ((rd_T55 l2 ((rd_T117 l0 x9_1).f0)).f1)
                      · rw [if_pos c12] at H
                        have c12b0 : decide (((rd_T55 l2 ((rd_T117 l0 x9_1).f0)).f0) ≤ ((rd_T55 l2 ((rd_T117 l0 x9_1).f0)).f1)) = true := decide_eq_true c12
                        clear c12
                        have H' := Aside0.mk H
                        clear H
                        have p227 : 0 ≤ (((rd_T117 l0 x9_1).f0) : Int) := of_decide_eq_true (by first | (with_reducible assumption) | assumption)
                        have q227 : ((rd_T117 l0 x9_1).f0) < (l2.length : Int) := of_decide_eq_true (by first | (with_reducible assumption) | assumption)
                        obtain ⟨ad227, e227, hx227_0, hx227_1⟩ := at_T55 HR2.out ((rd_T117 l0 x9_1).f0) p227 q227
                        cases e227
                        replace hx227_0 := (HB.out.cell (World.block_lt_of_cell? w _ hx227_0)).trans hx227_0
                        replace hx227_1 := (HB.out.cell (World.block_lt_of_cell? w _ hx227_1)).trans hx227_1
                        replace p227 := eq_true p227
                        replace q227 := eq_true q227
                        have p228 : 0 ≤ (((rd_T117 l0 x9_1).f0) : Int) := of_decide_eq_true (by first | (with_reducible assumption) | assumption)
                        have q228 : ((rd_T117 l0 x9_1).f0) < (l2.length : Int) := of_decide_eq_true (by first | (with_reducible assumption) | assumption)
                        obtain ⟨ad228, e228, hx228_0, hx228_1⟩ := at_T55 HR2.out ((rd_T117 l0 x9_1).f0) p228 q228
                        obtain rfl : ad227 = ad228 := (by injection e228)
                        replace hx228_0 := (HB.out.cell (World.block_lt_of_cell? w _ hx228_0)).trans hx228_0
                        replace hx228_1 := (HB.out.cell (World.block_lt_of_cell? w _ hx228_1)).trans hx228_1
                        replace p228 := eq_true p228
                        replace q228 := eq_true q228
                        have p229 : 0 ≤ (((rd_T117 l0 x9_1).f0) : Int) := of_decide_eq_true (by first | (with_reducible assumption) | assumption)
                        have q229 : ((rd_T117 l0 x9_1).f0) < (l2.length : Int) := of_decide_eq_true (by first | (with_reducible assumption) | assumption)
                        obtain ⟨ad229, e229, hx229_0, hx229_1⟩ := at_T55 HR2.out ((rd_T117 l0 x9_1).f0) p229 q229
                        obtain rfl : ad227 = ad229 := (by injection e229)
                        replace hx229_0 := (HB.out.cell (World.block_lt_of_cell? w _ hx229_0)).trans hx229_0
                        replace hx229_1 := (HB.out.cell (World.block_lt_of_cell? w _ hx229_1)).trans hx229_1
                        replace p229 := eq_true p229
                        replace q229 := eq_true q229
                        have p230 : 0 ≤ (((rd_T117 l0 x9_1).f0) : Int) := of_decide_eq_true (by first | (with_reducible assumption) | assumption)
                        have q230 : ((rd_T117 l0 x9_1).f0) < (l2.length : Int) := of_decide_eq_true (by first | (with_reducible assumption) | assumption)
                        obtain ⟨ad230, e230, hx230_0, hx230_1⟩ := at_T55 HR2.out ((rd_T117 l0 x9_1).f0) p230 q230
                        obtain rfl : ad227 = ad230 := (by injection e230)
                        replace hx230_0 := (HB.out.cell (World.block_lt_of_cell? w _ hx230_0)).trans hx230_0
                        replace hx230_1 := (HB.out.cell (World.block_lt_of_cell? w _ hx230_1)).trans hx230_1
                        replace p230 := eq_true p230
                        replace q230 := eq_true q230
                        go_wp2
                        repeat (go_quiet (fail); try go_wp2)
                        go_meet
                        case rel => exact ⟨_, (decide (((rd_T55 l2 ((rd_T117 l0 x9_1).f0)).f1) ≤ (a1.size : Int))), (by first | rfl | (simp; done) | (simp [*]; done)), H', ⟨by have := HK1.out; first | omega | exact Nat.le_refl _⟩, ⟨by (with_reducible repeat (first | apply Kd.R_alloc | apply Kd.R_drewN | apply Kd.R_drew)); exact HO_8.out⟩, ⟨by repeat (first | (with_reducible first | exact HB.out | apply below_alloc | apply pw_below_drewN | apply below_drew1) | exact HB.out)⟩⟩
                      · rw [if_neg c12] at H
                        have c12b0 : decide (((rd_T55 l2 ((rd_T117 l0 x9_1).f0)).f0) ≤ ((rd_T55 l2 ((rd_T117 l0 x9_1).f0)).f1)) = false := decide_eq_false c12
                        clear c12
                        have H' := Aside0.mk H
                        clear H
                        have p227 : 0 ≤ (((rd_T117 l0 x9_1).f0) : Int) := of_decide_eq_true (by first | (with_reducible assumption) | assumption)
                        have q227 : ((rd_T117 l0 x9_1).f0) < (l2.length : Int) := of_decide_eq_true (by first | (with_reducible assumption) | assumption)
                        obtain ⟨ad227, e227, hx227_0, hx227_1⟩ := at_T55 HR2.out ((rd_T117 l0 x9_1).f0) p227 q227
                        cases e227
                        replace hx227_0 := (HB.out.cell (World.block_lt_of_cell? w _ hx227_0)).trans hx227_0
                        replace hx227_1 := (HB.out.cell (World.block_lt_of_cell? w _ hx227_1)).trans hx227_1
                        replace p227 := eq_true p227
                        replace q227 := eq_true q227
                        have p228 : 0 ≤ (((rd_T117 l0 x9_1).f0) : Int) := of_decide_eq_true (by first | (with_reducible assumption) | assumption)
                        have q228 : ((rd_T117 l0 x9_1).f0) < (l2.length : Int) := of_decide_eq_true (by first | (with_reducible assumption) | assumption)
                        obtain ⟨ad228, e228, hx228_0, hx228_1⟩ := at_T55 HR2.out ((rd_T117 l0 x9_1).f0) p228 q228
                        obtain rfl : ad227 = ad228 := (by injection e228)
                        replace hx228_0 := (HB.out.cell (World.block_lt_of_cell? w _ hx228_0)).trans hx228_0
                        replace hx228_1 := (HB.out.cell (World.block_lt_of_cell? w _ hx228_1)).trans hx228_1
                        replace p228 := eq_true p228
                        replace q228 := eq_true q228
                        have p229 : 0 ≤ (((rd_T117 l0 x9_1).f0) : Int) := of_decide_eq_true (by first | (with_reducible assumption) | assumption)
                        have q229 : ((rd_T117 l0 x9_1).f0) < (l2.length : Int) := of_decide_eq_true (by first | (with_reducible assumption) | assumption)
                        obtain ⟨ad229, e229, hx229_0, hx229_1⟩ := at_T55 HR2.out ((rd_T117 l0 x9_1).f0) p229 q229
                        obtain rfl : ad227 = ad229 := (by injection e229)
                        replace hx229_0 := (HB.out.cell (World.block_lt_of_cell? w _ hx229_0)).trans hx229_0
                        replace hx229_1 := (HB.out.cell (World.block_lt_of_cell? w _ hx229_1)).trans hx229_1
                        replace p229 := eq_true p229
                        replace q229 := eq_true q229
                        go_wp2
                        repeat (go_quiet (fail); try go_wp2)
                        go_meet
                        case rel => exact ⟨_, (false), (by first | rfl | (simp; done) | (simp [*]; done)), H', ⟨by have := HK1.out; first | omega | exact Nat.le_refl _⟩, ⟨by (with_reducible repeat (first | apply Kd.R_alloc | apply Kd.R_drewN | apply Kd.R_drew)); exact HO_8.out⟩, ⟨by repeat (first | (with_reducible first | exact HB.out | apply below_alloc | apply pw_below_drewN | apply below_drew1) | exact HB.out)⟩⟩
                    · rw [if_neg c11] at H
                      have c11b0 : decide (0 ≤ ((rd_T55 l2 ((rd_T117 l0 x9_1).f0)).f0)) = false := decide_eq_false c11
                      clear c11
                      have H' := Aside0.mk H
                      clear H
                      have p227 : 0 ≤ (((rd_T117 l0 x9_1).f0) : Int) := of_decide_eq_true (by first | (with_reducible assumption) | assumption)
                      have q227 : ((rd_T117 l0 x9_1).f0) < (l2.length : Int) := of_decide_eq_true (by first | (with_reducible assumption) | assumption)
                      obtain ⟨ad227, e227, hx227_0, hx227_1⟩ := at_T55 HR2.out ((rd_T117 l0 x9_1).f0) p227 q227
                      cases e227
                      replace hx227_0 := (HB.out.cell (World.block_lt_of_cell? w _ hx227_0)).trans hx227_0
                      replace hx227_1 := (HB.out.cell (World.block_lt_of_cell? w _ hx227_1)).trans hx227_1
                      replace p227 := eq_true p227
                      replace q227 := eq_true q227
                      go_wp2
                      repeat (go_quiet (fail); try go_wp2)
                      go_meet
                      case rel => exact ⟨_, (false), (by first | rfl | (simp; done) | (simp [*]; done)), H', ⟨by have := HK1.out; first | omega | exact Nat.le_refl _⟩, ⟨by (with_reducible repeat (first | apply Kd.R_alloc | apply Kd.R_drewN | apply Kd.R_drew)); exact HO_8.out⟩, ⟨by repeat (first | (with_reducible first | exact HB.out | apply below_alloc | apply pw_below_drewN | apply below_drew1) | exact HB.out)⟩⟩
                  · rw [if_neg c10] at H
                    exact absurd H (by simp)
                · rw [if_neg c9] at H
                  have c9b0 : decide (((rd_T117 l0 x9_1).f0) < (l2.length : Int)) = false := decide_eq_false c9
                  clear c9
                  (first | rw [c9b0] | (simp only [i64_w, i32_w]; rw [c9b0]) | skip)
                  have H' := Aside0.mk H
                  clear H
                  go_wp2
                  repeat (go_quiet (fail); try go_wp2)
                  go_meet
                  case rel => exact ⟨_, (false), (by first | rfl | (simp; done) | (simp [*]; done)), H', ⟨by have := HK1.out; first | omega | exact Nat.le_refl _⟩, ⟨by (with_reducible repeat (first | apply Kd.R_alloc | apply Kd.R_drewN | apply Kd.R_drew)); exact HO_8.out⟩, ⟨by repeat (first | (with_reducible first | exact HB.out | apply below_alloc | apply pw_below_drewN | apply below_drew1) | exact HB.out)⟩⟩
              case rest =>
                clear HC8
                try clear c1
                try clear c2
                try clear p2
                try clear q2
                try clear hx2
                try clear c4
                try clear c4b0
                try clear c5
                try clear c5b0
                try clear c6
                try clear c6b0
                try clear c7
                try clear c7b0
                try clear c9
                try clear c9b0
                try clear c10
                try clear c10b0
                try clear c11
                try clear c11b0
                try clear c12
                try clear c12b0
                try clear hx225_0
                try clear hx225_1
                try clear hx226_0
                try clear hx226_1
                try clear hx227_0
                try clear hx227_1
                try clear hx228_0
                try clear hx228_1
                try clear hx229_0
                try clear hx229_1
                try clear hx230_0
                try clear hx230_1
                try clear p2
                try clear p225
                try clear p226
                try clear p227
                try clear p228
                try clear p229
                try clear p230
                try clear q225
                try clear q226
                try clear q227
                try clear q228
                try clear q229
                try clear q230
                obtain ⟨kq, x66_7, rfl, HA, HJ7, HO_8, HB⟩ := hcut
                cases kq with
                | zero => exact absurd HA.out (by simp [runnelref13_DocBuild.j1])
                | succ kj7 =>
                  have H := HA.out
                  clear HA
                  simp only [runnelref13_DocBuild.j1] at H
                  by_cases c13 : x66_7 = true
                  · subst c13
                    have H1 : (if 0 ≤ ((rd_T117 l0 x9_1).f0) then (if ((rd_T117 l0 x9_1).f0) < (l2.length : Int) then (if 0 ≤ ((rd_T55 l2 ((rd_T117 l0 x9_1).f0)).f0) then (if ((rd_T55 l2 ((rd_T117 l0 x9_1).f0)).f0) ≤ ((rd_T55 l2 ((rd_T117 l0 x9_1).f0)).f1) then (if ((rd_T55 l2 ((rd_T117 l0 x9_1).f0)).f1) ≤ (a1.size : Int) then (if (wrap64 ((x8_1.length : Int) + ((a1.extract (((rd_T55 l2 ((rd_T117 l0 x9_1).f0)).f0) : Int).toNat (((rd_T55 l2 ((rd_T117 l0 x9_1).f0)).f1) : Int).toNat).size : Int))) > 1024 then (some ((⟨#[]⟩ : ByteArray), 15)) else (if x8_1.length + (a1.extract (((rd_T55 l2 ((rd_T117 l0 x9_1).f0)).f0) : Int).toNat (((rd_T55 l2 ((rd_T117 l0 x9_1).f0)).f1) : Int).toNat).size < 140737488355328 then (runnelref13_DocBuild.l0 kj7 l0 a1 l2 (x8_1 ++ bytesOf (a1.extract (((rd_T55 l2 ((rd_T117 l0 x9_1).f0)).f0) : Int).toNat (((rd_T55 l2 ((rd_T117 l0 x9_1).f0)).f1) : Int).toNat)) (wrap64 (x9_1 + 1))) else (none))) else (none)) else (none)) else (none)) else (none)) else (none)) = some (r1, r2) := by rw [if_pos rfl] at H; exact H
                    clear H
                    have H := H1
                    clear H1
                    by_cases c14 : 0 ≤ ((rd_T117 l0 x9_1).f0)
                    · rw [if_pos c14] at H
                      have c14b0 : decide (0 ≤ ((rd_T117 l0 x9_1).f0)) = true := decide_eq_true c14
                      clear c14
                      by_cases c15 : ((rd_T117 l0 x9_1).f0) < (l2.length : Int)
                      · rw [if_pos c15] at H
                        have c15b0 : decide (((rd_T117 l0 x9_1).f0) < (l2.length : Int)) = true := decide_eq_true c15
                        clear c15
                        by_cases c16 : 0 ≤ ((rd_T55 l2 ((rd_T117 l0 x9_1).f0)).f0)
                        · rw [if_pos c16] at H
                          have c16b0 := eq_true c16
                          have c16b1 : decide (0 ≤ ((rd_T55 l2 ((rd_T117 l0 x9_1).f0)).f0)) = true := decide_eq_true c16
                          clear c16
                          by_cases c17 : ((rd_T55 l2 ((rd_T117 l0 x9_1).f0)).f0) ≤ ((rd_T55 l2 ((rd_T117 l0 x9_1).f0)).f1)
                          · rw [if_pos c17] at H
                            have c17b0 := eq_true c17
                            have c17b1 : decide (((rd_T55 l2 ((rd_T117 l0 x9_1).f0)).f0) ≤ ((rd_T55 l2 ((rd_T117 l0 x9_1).f0)).f1)) = true := decide_eq_true c17
                            clear c17
                            by_cases c18 : ((rd_T55 l2 ((rd_T117 l0 x9_1).f0)).f1) ≤ (a1.size : Int)
                            · rw [if_pos c18] at H
                              have c18b0 := eq_true c18
                              have c18b1 : decide (((rd_T55 l2 ((rd_T117 l0 x9_1).f0)).f1) ≤ (a1.size : Int)) = true := decide_eq_true c18
                              clear c18
                              by_cases c19 : (wrap64 ((x8_1.length : Int) + ((a1.extract (((rd_T55 l2 ((rd_T117 l0 x9_1).f0)).f0) : Int).toNat (((rd_T55 l2 ((rd_T117 l0 x9_1).f0)).f1) : Int).toNat).size : Int))) > 1024
                              · rw [if_pos c19] at H
                                have c19b0 : decide (1024 < (wrap64 ((x8_1.length : Int) + ((a1.extract (((rd_T55 l2 ((rd_T117 l0 x9_1).f0)).f0) : Int).toNat (((rd_T55 l2 ((rd_T117 l0 x9_1).f0)).f1) : Int).toNat).size : Int)))) = true := decide_eq_true c19
                                (try (have c19b0x := c19b0; rw [ByteArray.size_extract, Nat.min_eq_left (by have h_ := of_eq_true c18b0; omega)] at c19b0x))
                                clear c19
                                simp only [Option.some.injEq, Prod.mk.injEq] at H
                                obtain ⟨rfl, rfl⟩ := H
                                have p231 : 0 ≤ (((rd_T117 l0 x9_1).f0) : Int) := of_decide_eq_true (by first | (with_reducible assumption) | assumption)
                                have q231 : ((rd_T117 l0 x9_1).f0) < (l2.length : Int) := of_decide_eq_true (by first | (with_reducible assumption) | assumption)
                                obtain ⟨ad231, e231, hx231_0, hx231_1⟩ := at_T55 HR2.out ((rd_T117 l0 x9_1).f0) p231 q231
                                cases e231
                                replace hx231_0 := (HB.out.cell (World.block_lt_of_cell? w _ hx231_0)).trans hx231_0
                                replace hx231_1 := (HB.out.cell (World.block_lt_of_cell? w _ hx231_1)).trans hx231_1
                                replace p231 := eq_true p231
                                replace q231 := eq_true q231
                                have p232 : 0 ≤ (((rd_T117 l0 x9_1).f0) : Int) := of_decide_eq_true (by first | (with_reducible assumption) | assumption)
                                have q232 : ((rd_T117 l0 x9_1).f0) < (l2.length : Int) := of_decide_eq_true (by first | (with_reducible assumption) | assumption)
                                obtain ⟨ad232, e232, hx232_0, hx232_1⟩ := at_T55 HR2.out ((rd_T117 l0 x9_1).f0) p232 q232
                                obtain rfl : ad231 = ad232 := (by injection e232)
                                replace hx232_0 := (HB.out.cell (World.block_lt_of_cell? w _ hx232_0)).trans hx232_0
                                replace hx232_1 := (HB.out.cell (World.block_lt_of_cell? w _ hx232_1)).trans hx232_1
                                replace p232 := eq_true p232
                                replace q232 := eq_true q232
                                obtain ⟨Ao20, co20, eo20⟩ := Kd.R_slice HO_8.out
                                subst eo20
                                go_wp2
                                repeat (go_quiet (fail); try go_wp2)
                                go_ret2
                                exact ⟨by first | rfl | (simp only [wrap_wrap]; done) | (simp only [wrap_wrap]; rfl) | (simp [errW_none, errW_some] <;> rfl) | (simp [*, errW_none, errW_some] <;> rfl), by repeat (first | (with_reducible first | exact HB.out | apply below_alloc | apply pw_below_drewN | apply below_drew1) | exact HB.out)⟩
                              · rw [if_neg c19] at H
                                have c19b0 : decide (1024 < (wrap64 ((x8_1.length : Int) + ((a1.extract (((rd_T55 l2 ((rd_T117 l0 x9_1).f0)).f0) : Int).toNat (((rd_T55 l2 ((rd_T117 l0 x9_1).f0)).f1) : Int).toNat).size : Int)))) = false := decide_eq_false c19
                                (try (have c19b0x := c19b0; rw [ByteArray.size_extract, Nat.min_eq_left (by have h_ := of_eq_true c18b0; omega)] at c19b0x))
                                clear c19
                                by_cases c21 : x8_1.length + (a1.extract (((rd_T55 l2 ((rd_T117 l0 x9_1).f0)).f0) : Int).toNat (((rd_T55 l2 ((rd_T117 l0 x9_1).f0)).f1) : Int).toNat).size < 140737488355328
                                · rw [if_pos c21] at H
                                  have LMc21 := Aside0.mk c21
                                  clear c21
                                  obtain ⟨y233, hy233⟩ : ∃ y_ : List Int, y_ = (x8_1 ++ bytesOf (a1.extract (((rd_T55 l2 ((rd_T117 l0 x9_1).f0)).f0) : Int).toNat (((rd_T55 l2 ((rd_T117 l0 x9_1).f0)).f1) : Int).toNat)) := ⟨_, rfl⟩
                                  replace H : (runnelref13_DocBuild.l0 kj7 l0 a1 l2 y233 (wrap64 (x9_1 + 1))) = some (r1, r2) := by first | (rw [hy233]; with_reducible exact H) | (have H2_ := (Option.bind_some _ _).symm.trans H; rw [hy233]; with_reducible exact H2_) | (have H2_ := (Option.bind_some _ _).symm.trans H; with_reducible exact H2_) | with_reducible exact H | (rw [hy233]; exact H) | exact H
                                  have Ny233 := Aside0.mk hy233
                                  clear hy233
                                  have H' := Aside0.mk H
                                  clear H
                                  have p231 : 0 ≤ (((rd_T117 l0 x9_1).f0) : Int) := of_decide_eq_true (by first | (with_reducible assumption) | assumption)
                                  have q231 : ((rd_T117 l0 x9_1).f0) < (l2.length : Int) := of_decide_eq_true (by first | (with_reducible assumption) | assumption)
                                  obtain ⟨ad231, e231, hx231_0, hx231_1⟩ := at_T55 HR2.out ((rd_T117 l0 x9_1).f0) p231 q231
                                  cases e231
                                  replace hx231_0 := (HB.out.cell (World.block_lt_of_cell? w _ hx231_0)).trans hx231_0
                                  replace hx231_1 := (HB.out.cell (World.block_lt_of_cell? w _ hx231_1)).trans hx231_1
                                  replace p231 := eq_true p231
                                  replace q231 := eq_true q231
                                  have p232 : 0 ≤ (((rd_T117 l0 x9_1).f0) : Int) := of_decide_eq_true (by first | (with_reducible assumption) | assumption)
                                  have q232 : ((rd_T117 l0 x9_1).f0) < (l2.length : Int) := of_decide_eq_true (by first | (with_reducible assumption) | assumption)
                                  obtain ⟨ad232, e232, hx232_0, hx232_1⟩ := at_T55 HR2.out ((rd_T117 l0 x9_1).f0) p232 q232
                                  obtain rfl : ad231 = ad232 := (by injection e232)
                                  replace hx232_0 := (HB.out.cell (World.block_lt_of_cell? w _ hx232_0)).trans hx232_0
                                  replace hx232_1 := (HB.out.cell (World.block_lt_of_cell? w _ hx232_1)).trans hx232_1
                                  replace p232 := eq_true p232
                                  replace q232 := eq_true q232
                                  obtain ⟨Ao22, co22, eo22⟩ := Kd.R_slice HO_8.out
                                  subst eo22
                                  go_wp2_with (first | (at_builtin; refine print_append_str (w0 := w) w.heap.size rfl (.tmp 85) _ 39 9 5 rfl Try.underlying39 Try.underlying9 info5 (.slice Ao22 x8_1.length co22) x8_1 (a1.extract (((rd_T55 l2 ((rd_T117 l0 x9_1).f0)).f0) : Int).toNat (((rd_T55 l2 ((rd_T117 l0 x9_1).f0)).f1) : Int).toNat) rfl rfl ?aO ?aB ?aS ?aL ?_; (case aB => exact (by repeat (first | (with_reducible first | exact HB.out | apply below_alloc | apply pw_below_drewN | apply below_drew1) | exact HB.out))); (case aO => exact (Kd.own_of_R (by (with_reducible repeat (first | apply Kd.R_alloc | apply Kd.R_drewN | apply Kd.R_drew)); exact HO_8.out))); (case aS => exact (below_size (by repeat (first | (with_reducible first | exact HB.out | apply below_alloc | apply pw_below_drewN | apply below_drew1) | exact HB.out)))); (case aL => have := LMc21.out; omega); intro v234 w23 ho0 hb hg; have ho := Kd.R_of_own (h1 := fun _ => rfl) (ok := fun _ => True) ho0 (fun _ _ => trivial); clear ho0; have hat := True.intro; rw [← Ny233.out] at ho; change Kd.R (Kd.int .u8) 5 w23 w.heap.size (fun _ => True) v234 y233 at ho; have n0_ := Aside0.mk (hb); have n1_ := Aside0.mk (ho); clear HB; clear HO_8; have HB := n0_; have HO235 := n1_; clear n0_ n1_; clear ho hb hg hat))
                                  repeat (go_quiet (first | (at_builtin; refine print_append_str (w0 := w) w.heap.size rfl (.tmp 85) _ 39 9 5 rfl Try.underlying39 Try.underlying9 info5 (.slice Ao22 x8_1.length co22) x8_1 (a1.extract (((rd_T55 l2 ((rd_T117 l0 x9_1).f0)).f0) : Int).toNat (((rd_T55 l2 ((rd_T117 l0 x9_1).f0)).f1) : Int).toNat) rfl rfl ?aO ?aB ?aS ?aL ?_; (case aB => exact (by repeat (first | (with_reducible first | exact HB.out | apply below_alloc | apply pw_below_drewN | apply below_drew1) | exact HB.out))); (case aO => exact (Kd.own_of_R (by (with_reducible repeat (first | apply Kd.R_alloc | apply Kd.R_drewN | apply Kd.R_drew)); exact HO_8.out))); (case aS => exact (below_size (by repeat (first | (with_reducible first | exact HB.out | apply below_alloc | apply pw_below_drewN | apply below_drew1) | exact HB.out)))); (case aL => have := LMc21.out; omega); intro v234 w23 ho0 hb hg; have ho := Kd.R_of_own (h1 := fun _ => rfl) (ok := fun _ => True) ho0 (fun _ _ => trivial); clear ho0; have hat := True.intro; rw [← Ny233.out] at ho; change Kd.R (Kd.int .u8) 5 w23 w.heap.size (fun _ => True) v234 y233 at ho; have n0_ := Aside0.mk (hb); have n1_ := Aside0.mk (ho); clear HB; clear HO_8; have HB := n0_; have HO235 := n1_; clear n0_ n1_; clear ho hb hg hat)); try go_wp2_with (first | (at_builtin; refine print_append_str (w0 := w) w.heap.size rfl (.tmp 85) _ 39 9 5 rfl Try.underlying39 Try.underlying9 info5 (.slice Ao22 x8_1.length co22) x8_1 (a1.extract (((rd_T55 l2 ((rd_T117 l0 x9_1).f0)).f0) : Int).toNat (((rd_T55 l2 ((rd_T117 l0 x9_1).f0)).f1) : Int).toNat) rfl rfl ?aO ?aB ?aS ?aL ?_; (case aB => exact (by repeat (first | (with_reducible first | exact HB.out | apply below_alloc | apply pw_below_drewN | apply below_drew1) | exact HB.out))); (case aO => exact (Kd.own_of_R (by (with_reducible repeat (first | apply Kd.R_alloc | apply Kd.R_drewN | apply Kd.R_drew)); exact HO_8.out))); (case aS => exact (below_size (by repeat (first | (with_reducible first | exact HB.out | apply below_alloc | apply pw_below_drewN | apply below_drew1) | exact HB.out)))); (case aL => have := LMc21.out; omega); intro v234 w23 ho0 hb hg; have ho := Kd.R_of_own (h1 := fun _ => rfl) (ok := fun _ => True) ho0 (fun _ _ => trivial); clear ho0; have hat := True.intro; rw [← Ny233.out] at ho; change Kd.R (Kd.int .u8) 5 w23 w.heap.size (fun _ => True) v234 y233 at ho; have n0_ := Aside0.mk (hb); have n1_ := Aside0.mk (ho); clear HB; clear HO_8; have HB := n0_; have HO235 := n1_; clear n0_ n1_; clear ho hb hg hat)))
                                  go_roundg kj7
                                  case measure => have := HK1.out; have := HJ7.out; omega
                                  case rel => exact ⟨(y233), (wrap64 (x9_1 + 1)), (by first | rfl | (simp; done) | (simp [*]; done)), H', ⟨by have := HK1.out; have := HJ7.out; omega⟩, ⟨by (with_reducible repeat (first | apply Kd.R_alloc | apply Kd.R_drewN | apply Kd.R_drew)); exact HO235.out⟩, ⟨by repeat (first | (with_reducible first | exact HB.out | apply below_alloc | apply pw_below_drewN | apply below_drew1) | exact HB.out)⟩⟩
                                · rw [if_neg c21] at H
                                  exact absurd H (by simp)
                            · rw [if_neg c18] at H
                              exact absurd H (by simp)
                          · rw [if_neg c17] at H
                            exact absurd H (by simp)
                        · rw [if_neg c16] at H
                          exact absurd H (by simp)
                      · rw [if_neg c15] at H
                        exact absurd H (by simp)
                    · rw [if_neg c14] at H
                      exact absurd H (by simp)
                  · replace c13 := Bool.eq_false_iff.mpr c13
                    subst c13
                    have H1 : (if (wrap64 ((x8_1.length : Int) + ((⟨#[]⟩ : ByteArray).size : Int))) > 1024 then (some ((⟨#[]⟩ : ByteArray), 15)) else (if x8_1.length + (⟨#[]⟩ : ByteArray).size < 140737488355328 then (runnelref13_DocBuild.l0 kj7 l0 a1 l2 (x8_1 ++ bytesOf (⟨#[]⟩ : ByteArray)) (wrap64 (x9_1 + 1))) else (none))) = some (r1, r2) := by rw [if_neg (show ¬ (false = true) by decide)] at H; exact H
                    clear H
                    have H := H1
                    clear H1
                    by_cases c24 : (wrap64 ((x8_1.length : Int) + ((⟨#[]⟩ : ByteArray).size : Int))) > 1024
                    · rw [if_pos c24] at H
                      have c24b0 : decide (1024 < (wrap64 ((x8_1.length : Int) + ((⟨#[]⟩ : ByteArray).size : Int)))) = true := decide_eq_true c24
                      (try (have c24b0x := c24b0; simp only [show ((⟨#[]⟩ : ByteArray).size : Int) = 0 from rfl, Int.add_zero] at c24b0x))
                      clear c24
                      simp only [Option.some.injEq, Prod.mk.injEq] at H
                      obtain ⟨rfl, rfl⟩ := H
                      obtain ⟨Ao25, co25, eo25⟩ := Kd.R_slice HO_8.out
                      subst eo25
                      go_wp2
                      repeat (go_quiet (fail); try go_wp2)
                      go_ret2
                      exact ⟨by first | rfl | (simp only [wrap_wrap]; done) | (simp only [wrap_wrap]; rfl) | (simp [errW_none, errW_some] <;> rfl) | (simp [*, errW_none, errW_some] <;> rfl), by repeat (first | (with_reducible first | exact HB.out | apply below_alloc | apply pw_below_drewN | apply below_drew1) | exact HB.out)⟩
                    · rw [if_neg c24] at H
                      have c24b0 : decide (1024 < (wrap64 ((x8_1.length : Int) + ((⟨#[]⟩ : ByteArray).size : Int)))) = false := decide_eq_false c24
                      (try (have c24b0x := c24b0; simp only [show ((⟨#[]⟩ : ByteArray).size : Int) = 0 from rfl, Int.add_zero] at c24b0x))
                      clear c24
                      by_cases c26 : x8_1.length + (⟨#[]⟩ : ByteArray).size < 140737488355328
                      · rw [if_pos c26] at H
                        have LMc26 := Aside0.mk c26
                        clear c26
                        obtain ⟨y236, hy236⟩ : ∃ y_ : List Int, y_ = (x8_1 ++ bytesOf (⟨#[]⟩ : ByteArray)) := ⟨_, rfl⟩
                        replace H : (runnelref13_DocBuild.l0 kj7 l0 a1 l2 y236 (wrap64 (x9_1 + 1))) = some (r1, r2) := by first | (rw [hy236]; with_reducible exact H) | (have H2_ := (Option.bind_some _ _).symm.trans H; rw [hy236]; with_reducible exact H2_) | (have H2_ := (Option.bind_some _ _).symm.trans H; with_reducible exact H2_) | with_reducible exact H | (rw [hy236]; exact H) | exact H
                        have Ny236 := Aside0.mk hy236
                        clear hy236
                        have H' := Aside0.mk H
                        clear H
                        obtain ⟨Ao27, co27, eo27⟩ := Kd.R_slice HO_8.out
                        subst eo27
                        go_wp2_with (first | (at_builtin; refine print_append_str (w0 := w) w.heap.size rfl (.tmp 85) _ 39 9 5 rfl Try.underlying39 Try.underlying9 info5 (.slice Ao27 x8_1.length co27) x8_1 (⟨#[]⟩ : ByteArray) rfl rfl ?aO ?aB ?aS ?aL ?_; (case aB => exact (by repeat (first | (with_reducible first | exact HB.out | apply below_alloc | apply pw_below_drewN | apply below_drew1) | exact HB.out))); (case aO => exact (Kd.own_of_R (by (with_reducible repeat (first | apply Kd.R_alloc | apply Kd.R_drewN | apply Kd.R_drew)); exact HO_8.out))); (case aS => exact (below_size (by repeat (first | (with_reducible first | exact HB.out | apply below_alloc | apply pw_below_drewN | apply below_drew1) | exact HB.out)))); (case aL => have := LMc26.out; omega); intro v237 w28 ho0 hb hg; have ho := Kd.R_of_own (h1 := fun _ => rfl) (ok := fun _ => True) ho0 (fun _ _ => trivial); clear ho0; have hat := True.intro; rw [← Ny236.out] at ho; change Kd.R (Kd.int .u8) 5 w28 w.heap.size (fun _ => True) v237 y236 at ho; have n0_ := Aside0.mk (hb); have n1_ := Aside0.mk (ho); clear HB; clear HO_8; have HB := n0_; have HO238 := n1_; clear n0_ n1_; clear ho hb hg hat))
                        repeat (go_quiet (first | (at_builtin; refine print_append_str (w0 := w) w.heap.size rfl (.tmp 85) _ 39 9 5 rfl Try.underlying39 Try.underlying9 info5 (.slice Ao27 x8_1.length co27) x8_1 (⟨#[]⟩ : ByteArray) rfl rfl ?aO ?aB ?aS ?aL ?_; (case aB => exact (by repeat (first | (with_reducible first | exact HB.out | apply below_alloc | apply pw_below_drewN | apply below_drew1) | exact HB.out))); (case aO => exact (Kd.own_of_R (by (with_reducible repeat (first | apply Kd.R_alloc | apply Kd.R_drewN | apply Kd.R_drew)); exact HO_8.out))); (case aS => exact (below_size (by repeat (first | (with_reducible first | exact HB.out | apply below_alloc | apply pw_below_drewN | apply below_drew1) | exact HB.out)))); (case aL => have := LMc26.out; omega); intro v237 w28 ho0 hb hg; have ho := Kd.R_of_own (h1 := fun _ => rfl) (ok := fun _ => True) ho0 (fun _ _ => trivial); clear ho0; have hat := True.intro; rw [← Ny236.out] at ho; change Kd.R (Kd.int .u8) 5 w28 w.heap.size (fun _ => True) v237 y236 at ho; have n0_ := Aside0.mk (hb); have n1_ := Aside0.mk (ho); clear HB; clear HO_8; have HB := n0_; have HO238 := n1_; clear n0_ n1_; clear ho hb hg hat)); try go_wp2_with (first | (at_builtin; refine print_append_str (w0 := w) w.heap.size rfl (.tmp 85) _ 39 9 5 rfl Try.underlying39 Try.underlying9 info5 (.slice Ao27 x8_1.length co27) x8_1 (⟨#[]⟩ : ByteArray) rfl rfl ?aO ?aB ?aS ?aL ?_; (case aB => exact (by repeat (first | (with_reducible first | exact HB.out | apply below_alloc | apply pw_below_drewN | apply below_drew1) | exact HB.out))); (case aO => exact (Kd.own_of_R (by (with_reducible repeat (first | apply Kd.R_alloc | apply Kd.R_drewN | apply Kd.R_drew)); exact HO_8.out))); (case aS => exact (below_size (by repeat (first | (with_reducible first | exact HB.out | apply below_alloc | apply pw_below_drewN | apply below_drew1) | exact HB.out)))); (case aL => have := LMc26.out; omega); intro v237 w28 ho0 hb hg; have ho := Kd.R_of_own (h1 := fun _ => rfl) (ok := fun _ => True) ho0 (fun _ _ => trivial); clear ho0; have hat := True.intro; rw [← Ny236.out] at ho; change Kd.R (Kd.int .u8) 5 w28 w.heap.size (fun _ => True) v237 y236 at ho; have n0_ := Aside0.mk (hb); have n1_ := Aside0.mk (ho); clear HB; clear HO_8; have HB := n0_; have HO238 := n1_; clear n0_ n1_; clear ho hb hg hat)))
                        go_roundg kj7
                        case measure => have := HK1.out; have := HJ7.out; omega
                        case rel => exact ⟨(y236), (wrap64 (x9_1 + 1)), (by first | rfl | (simp; done) | (simp [*]; done)), H', ⟨by have := HK1.out; have := HJ7.out; omega⟩, ⟨by (with_reducible repeat (first | apply Kd.R_alloc | apply Kd.R_drewN | apply Kd.R_drew)); exact HO238.out⟩, ⟨by repeat (first | (with_reducible first | exact HB.out | apply below_alloc | apply pw_below_drewN | apply below_drew1) | exact HB.out)⟩⟩
                      · rw [if_neg c26] at H
                        exact absurd H (by simp)
            · rw [if_neg c7] at H
              have c7b0 : decide (0 ≤ ((rd_T117 l0 x9_1).f0)) = false := decide_eq_false c7
              clear c7
              by_cases c29 : (wrap64 ((x8_1.length : Int) + (((rd_T117 l0 x9_1).f1).size : Int))) > 1024
              · rw [if_pos c29] at H
                have c29b0 : decide (1024 < (wrap64 ((x8_1.length : Int) + (((rd_T117 l0 x9_1).f1).size : Int)))) = true := decide_eq_true c29
                clear c29
                simp only [Option.some.injEq, Prod.mk.injEq] at H
                obtain ⟨rfl, rfl⟩ := H
                have p225 : 0 ≤ (x9_1 : Int) := of_decide_eq_true (by first | (with_reducible assumption) | assumption)
                have q225 : x9_1 < (l0.length : Int) := of_decide_eq_true (by first | (with_reducible assumption) | assumption)
                obtain ⟨ad225, e225, hx225_0, hx225_1⟩ := at_T117 HR0.out x9_1 p225 q225
                cases e225
                replace hx225_0 := (HB.out.cell (World.block_lt_of_cell? w _ hx225_0)).trans hx225_0
                replace hx225_1 := (HB.out.cell (World.block_lt_of_cell? w _ hx225_1)).trans hx225_1
                replace p225 := eq_true p225
                replace q225 := eq_true q225
                have p226 : 0 ≤ (x9_1 : Int) := of_decide_eq_true (by first | (with_reducible assumption) | assumption)
                have q226 : x9_1 < (l0.length : Int) := of_decide_eq_true (by first | (with_reducible assumption) | assumption)
                obtain ⟨ad226, e226, hx226_0, hx226_1⟩ := at_T117 HR0.out x9_1 p226 q226
                obtain rfl : ad225 = ad226 := (by injection e226)
                replace hx226_0 := (HB.out.cell (World.block_lt_of_cell? w _ hx226_0)).trans hx226_0
                replace hx226_1 := (HB.out.cell (World.block_lt_of_cell? w _ hx226_1)).trans hx226_1
                replace p226 := eq_true p226
                replace q226 := eq_true q226
                obtain ⟨Ao30, co30, eo30⟩ := Kd.R_slice HO_8.out
                subst eo30
                go_wp2
                repeat (go_quiet (fail); try go_wp2)
                go_ret2
                exact ⟨by first | rfl | (simp only [wrap_wrap]; done) | (simp only [wrap_wrap]; rfl) | (simp [errW_none, errW_some] <;> rfl) | (simp [*, errW_none, errW_some] <;> rfl), by repeat (first | (with_reducible first | exact HB.out | apply below_alloc | apply pw_below_drewN | apply below_drew1) | exact HB.out)⟩
              · rw [if_neg c29] at H
                have c29b0 : decide (1024 < (wrap64 ((x8_1.length : Int) + (((rd_T117 l0 x9_1).f1).size : Int)))) = false := decide_eq_false c29
                clear c29
                by_cases c31 : x8_1.length + ((rd_T117 l0 x9_1).f1).size < 140737488355328
                · rw [if_pos c31] at H
                  have LMc31 := Aside0.mk c31
                  clear c31
                  obtain ⟨y239, hy239⟩ : ∃ y_ : List Int, y_ = (x8_1 ++ bytesOf ((rd_T117 l0 x9_1).f1)) := ⟨_, rfl⟩
                  replace H : (runnelref13_DocBuild.l0 k1 l0 a1 l2 y239 (wrap64 (x9_1 + 1))) = some (r1, r2) := by first | (rw [hy239]; with_reducible exact H) | (have H2_ := (Option.bind_some _ _).symm.trans H; rw [hy239]; with_reducible exact H2_) | (have H2_ := (Option.bind_some _ _).symm.trans H; with_reducible exact H2_) | with_reducible exact H | (rw [hy239]; exact H) | exact H
                  have Ny239 := Aside0.mk hy239
                  clear hy239
                  have H' := Aside0.mk H
                  clear H
                  have p225 : 0 ≤ (x9_1 : Int) := of_decide_eq_true (by first | (with_reducible assumption) | assumption)
                  have q225 : x9_1 < (l0.length : Int) := of_decide_eq_true (by first | (with_reducible assumption) | assumption)
                  obtain ⟨ad225, e225, hx225_0, hx225_1⟩ := at_T117 HR0.out x9_1 p225 q225
                  cases e225
                  replace hx225_0 := (HB.out.cell (World.block_lt_of_cell? w _ hx225_0)).trans hx225_0
                  replace hx225_1 := (HB.out.cell (World.block_lt_of_cell? w _ hx225_1)).trans hx225_1
                  replace p225 := eq_true p225
                  replace q225 := eq_true q225
                  have p226 : 0 ≤ (x9_1 : Int) := of_decide_eq_true (by first | (with_reducible assumption) | assumption)
                  have q226 : x9_1 < (l0.length : Int) := of_decide_eq_true (by first | (with_reducible assumption) | assumption)
                  obtain ⟨ad226, e226, hx226_0, hx226_1⟩ := at_T117 HR0.out x9_1 p226 q226
                  obtain rfl : ad225 = ad226 := (by injection e226)
                  replace hx226_0 := (HB.out.cell (World.block_lt_of_cell? w _ hx226_0)).trans hx226_0
                  replace hx226_1 := (HB.out.cell (World.block_lt_of_cell? w _ hx226_1)).trans hx226_1
                  replace p226 := eq_true p226
                  replace q226 := eq_true q226
                  obtain ⟨Ao32, co32, eo32⟩ := Kd.R_slice HO_8.out
                  subst eo32
                  go_wp2_with (first | (at_builtin; refine print_append_str (w0 := w) w.heap.size rfl (.tmp 85) _ 39 9 5 rfl Try.underlying39 Try.underlying9 info5 (.slice Ao32 x8_1.length co32) x8_1 ((rd_T117 l0 x9_1).f1) rfl rfl ?aO ?aB ?aS ?aL ?_; (case aB => exact (by repeat (first | (with_reducible first | exact HB.out | apply below_alloc | apply pw_below_drewN | apply below_drew1) | exact HB.out))); (case aO => exact (Kd.own_of_R (by (with_reducible repeat (first | apply Kd.R_alloc | apply Kd.R_drewN | apply Kd.R_drew)); exact HO_8.out))); (case aS => exact (below_size (by repeat (first | (with_reducible first | exact HB.out | apply below_alloc | apply pw_below_drewN | apply below_drew1) | exact HB.out)))); (case aL => have := LMc31.out; omega); intro v240 w33 ho0 hb hg; have ho := Kd.R_of_own (h1 := fun _ => rfl) (ok := fun _ => True) ho0 (fun _ _ => trivial); clear ho0; have hat := True.intro; rw [← Ny239.out] at ho; change Kd.R (Kd.int .u8) 5 w33 w.heap.size (fun _ => True) v240 y239 at ho; have n0_ := Aside0.mk (hb); have n1_ := Aside0.mk (ho); clear HB; clear HO_8; have HB := n0_; have HO241 := n1_; clear n0_ n1_; clear ho hb hg hat))
                  repeat (go_quiet (first | (at_builtin; refine print_append_str (w0 := w) w.heap.size rfl (.tmp 85) _ 39 9 5 rfl Try.underlying39 Try.underlying9 info5 (.slice Ao32 x8_1.length co32) x8_1 ((rd_T117 l0 x9_1).f1) rfl rfl ?aO ?aB ?aS ?aL ?_; (case aB => exact (by repeat (first | (with_reducible first | exact HB.out | apply below_alloc | apply pw_below_drewN | apply below_drew1) | exact HB.out))); (case aO => exact (Kd.own_of_R (by (with_reducible repeat (first | apply Kd.R_alloc | apply Kd.R_drewN | apply Kd.R_drew)); exact HO_8.out))); (case aS => exact (below_size (by repeat (first | (with_reducible first | exact HB.out | apply below_alloc | apply pw_below_drewN | apply below_drew1) | exact HB.out)))); (case aL => have := LMc31.out; omega); intro v240 w33 ho0 hb hg; have ho := Kd.R_of_own (h1 := fun _ => rfl) (ok := fun _ => True) ho0 (fun _ _ => trivial); clear ho0; have hat := True.intro; rw [← Ny239.out] at ho; change Kd.R (Kd.int .u8) 5 w33 w.heap.size (fun _ => True) v240 y239 at ho; have n0_ := Aside0.mk (hb); have n1_ := Aside0.mk (ho); clear HB; clear HO_8; have HB := n0_; have HO241 := n1_; clear n0_ n1_; clear ho hb hg hat)); try go_wp2_with (first | (at_builtin; refine print_append_str (w0 := w) w.heap.size rfl (.tmp 85) _ 39 9 5 rfl Try.underlying39 Try.underlying9 info5 (.slice Ao32 x8_1.length co32) x8_1 ((rd_T117 l0 x9_1).f1) rfl rfl ?aO ?aB ?aS ?aL ?_; (case aB => exact (by repeat (first | (with_reducible first | exact HB.out | apply below_alloc | apply pw_below_drewN | apply below_drew1) | exact HB.out))); (case aO => exact (Kd.own_of_R (by (with_reducible repeat (first | apply Kd.R_alloc | apply Kd.R_drewN | apply Kd.R_drew)); exact HO_8.out))); (case aS => exact (below_size (by repeat (first | (with_reducible first | exact HB.out | apply below_alloc | apply pw_below_drewN | apply below_drew1) | exact HB.out)))); (case aL => have := LMc31.out; omega); intro v240 w33 ho0 hb hg; have ho := Kd.R_of_own (h1 := fun _ => rfl) (ok := fun _ => True) ho0 (fun _ _ => trivial); clear ho0; have hat := True.intro; rw [← Ny239.out] at ho; change Kd.R (Kd.int .u8) 5 w33 w.heap.size (fun _ => True) v240 y239 at ho; have n0_ := Aside0.mk (hb); have n1_ := Aside0.mk (ho); clear HB; clear HO_8; have HB := n0_; have HO241 := n1_; clear n0_ n1_; clear ho hb hg hat)))
                  go_roundg k1
                  case measure => have := HK1.out; omega
                  case rel => exact ⟨(y239), (wrap64 (x9_1 + 1)), (by first | rfl | (simp; done) | (simp [*]; done)), H', ⟨by have := HK1.out; omega⟩, ⟨by (with_reducible repeat (first | apply Kd.R_alloc | apply Kd.R_drewN | apply Kd.R_drew)); exact HO241.out⟩, ⟨by repeat (first | (with_reducible first | exact HB.out | apply below_alloc | apply pw_below_drewN | apply below_drew1) | exact HB.out)⟩⟩
                · rw [if_neg c31] at H
                  exact absurd H (by simp)
        · rw [if_neg c5] at H
          exact absurd H (by simp)
      · rw [if_neg c4] at H
        have c4b0 : decide (x9_1 < (l0.length : Int)) = false := decide_eq_false c4
        clear c4
        simp only [Option.some.injEq, Prod.mk.injEq] at H
        obtain ⟨rfl, rfl⟩ := H
        have hcv34 := own_string (P := Try.prog) Try.underlying39 Try.underlying5 Try.underlying9 (Kd.own_of_R HO_8.out)
        go_wp2
        repeat (go_quiet (fail); try go_wp2)
        go_ret2
        exact ⟨by first | rfl | (simp only [wrap_wrap]; done) | (simp only [wrap_wrap]; rfl) | (simp [errW_none, errW_some] <;> rfl) | (simp [*, errW_none, errW_some] <;> rfl), by repeat (first | (with_reducible first | exact HB.out | apply below_alloc | apply pw_below_drewN | apply below_drew1) | exact HB.out)⟩

end Go.Proofs.Ytdlbmajilmmapaa.F
