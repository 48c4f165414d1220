-- Made by a program of this session (wip/tools/pr.py over the kit's printer). Not trusted: Lean checks it.
import Derived.Test.YtdlbmajilmmapaaFx
namespace Go.Proofs.Ytdlbmajilmmapaa.F
open Go.RowKit Go.Proofs.YtdlbmajilmmapaaW.PrintWords Go.Proofs.YtdlbmajilmmapaaW.PrintLast Go.Proofs.YtdlbmajilmmapaaW.PrintMore
attribute [local go_sem] max2_int min2_int max_two min_two max_three min_three max_four min_four
set_option linter.unusedVariables false
set_option linter.unusedSimpArgs false

/-! ### runnelref19_Open: function 55 -/
def runnelref19_Open.l0 : Nat → List (S27) → Int → List Int → Int → Option (List Int)
  | 0, _, _, _, _ => none
  | k + 1, x0, x1, x5, x6 => if x6 < x1 then (if 0 ≤ x6 then (if x6 < (x0.length : Int) then (if ((rd_T27 x0 x6).f4) = 123 then (if x5.length < 17592186044416 then ((some (x5 ++ [x6] : List Int)).bind fun y110 => (if ((rd_T27 x0 x6).f4) = 125 then (if (y110.length : Int) > 0 then (if 0 ≤ (wrap64 ((y110.length : Int) - 1)) then (if (wrap64 ((y110.length : Int) - 1)) ≤ (y110.length : Int) then (runnelref19_Open.l0 k x0 x1 (y110.take ((wrap64 ((y110.length : Int) - 1)) : Int).toNat) (wrap64 (x6 + 1))) else (none)) else (none)) else (runnelref19_Open.l0 k x0 x1 y110 (wrap64 (x6 + 1)))) else (runnelref19_Open.l0 k x0 x1 y110 (wrap64 (x6 + 1))))) else (none)) else (if ((rd_T27 x0 x6).f4) = 125 then (if (x5.length : Int) > 0 then (if 0 ≤ (wrap64 ((x5.length : Int) - 1)) then (if (wrap64 ((x5.length : Int) - 1)) ≤ (x5.length : Int) then (runnelref19_Open.l0 k x0 x1 (x5.take ((wrap64 ((x5.length : Int) - 1)) : Int).toNat) (wrap64 (x6 + 1))) else (none)) else (none)) else (runnelref19_Open.l0 k x0 x1 x5 (wrap64 (x6 + 1)))) else (runnelref19_Open.l0 k x0 x1 x5 (wrap64 (x6 + 1))))) else (none)) else (none)) else (some x5)
def runnelref19_Open.f (k : Nat) (l0 : List (S27)) (a1 : Int) : Option (List Int) := runnelref19_Open.l0 k l0 a1 ([] : List Int) 0
theorem runnelref19_Open.mono_l : ∀ k, (∀ y0 y1 y2 y3, LeO (runnelref19_Open.l0 k y0 y1 y2 y3) (runnelref19_Open.l0 (k + 1) y0 y1 y2 y3))
  | 0 => fun _ _ _ _ r h => by simp [runnelref19_Open.l0] at h
  | k + 1 => by
    have ih0 := runnelref19_Open.mono_l k
    · intro y0 y1 y2 y3
      unfold runnelref19_Open.l0
      repeat' first
      | (with_reducible exact ih0 _ _ _ _)
      | (with_reducible exact LeO.refl _)
      | (with_reducible exact LeO.none _)
      | (with_reducible refine LeO.ite ?_ ?_)
      | (with_reducible refine LeO.bind ?_ (fun _ => ?_))
      | exact ih0 _ _ _ _
      | exact LeO.none _
      | refine LeO.ite ?_ ?_
      | refine LeO.bind ?_ (fun _ => ?_)
theorem runnelref19_Open.mono : ∀ a0 a1 k, LeO (runnelref19_Open.f k a0 a1) (runnelref19_Open.f (k + 1) a0 a1) := by
  intro a0 a1 k
  have ih0 := runnelref19_Open.mono_l k
  unfold runnelref19_Open.f
  repeat' first
      | (with_reducible exact ih0 _ _ _ _)
      | (with_reducible exact LeO.refl _)
      | (with_reducible exact LeO.none _)
      | (with_reducible refine LeO.ite ?_ ?_)
      | (with_reducible refine LeO.bind ?_ (fun _ => ?_))
      | exact ih0 _ _ _ _
      | exact LeO.none _
      | refine LeO.ite ?_ ?_
      | refine LeO.bind ?_ (fun _ => ?_)
set_option maxHeartbeats 8000000 in
set_option maxRecDepth 100000 in
theorem runnelref19_Open.calls (k : Nat) (A0 : Option Addr) (c0 : Nat) (l0 : List (S27)) (a1 : Int) (r : List Int) (w : World) (hr0 : Kd.C k27 w A0 l0.length l0) (hc0 : l0.length ≤ c0) (h : runnelref19_Open.f k l0 a1 = some r) :
    Calls Try.prog 55 #[.slice A0 l0.length c0, .int .i64 a1] w fun e w' => ∃ v0_ : Value, e = .returned (v0_) ∧ Kd.R (Kd.int .i64) 3 w' w.heap.size (fun _ => True) v0_ r ∧ Below w.heap.size w w' := by
  have HR0 := Aside0.mk hr0
  have HC0 := Aside0.mk hc0
  clear hr0 hc0
  have HB := Aside0.mk (Below.refl w.heap.size w)
  have H : (runnelref19_Open.l0 k l0 a1 ([] : List Int) 0) = some r := h
  clear h
  have H' := Aside0.mk H
  clear H
  go_enter Try.func55, Try.ntmps55
  go_wp2
  go_loopg [5, 6] k (fun kq v5 v6 w' => ∃ (x5_1 : List Int) (x6_1 : Int), v6 = .int .i64 x6_1 ∧ Aside0 (runnelref19_Open.l0 kq l0 a1 x5_1 x6_1 = some r) ∧ Aside0 (kq ≤ k) ∧ Aside0 (Kd.R (Kd.int .i64) 3 w' w.heap.size (fun _ => True) v5 x5_1) ∧ Aside0 (Below w.heap.size w w'))
  case atStart => exact ⟨(([] : List Int)), (0), (by first | rfl | (simp; done) | (simp [*]; done)), H', ⟨Nat.le_refl _⟩, ⟨by first | exact Kd.R_nil _ _ _ _ _ | exact Kd.N_nil _ _ _ _ _ | exact Kd.V_nil _ _ _ _ _ | exact Kd.Q_nil _ _ _ _ _ | exact Kd.S_nil _ _ _ _ _⟩, ⟨by repeat (first | (with_reducible first | exact HB.out | apply below_alloc | apply pw_below_drewN | apply below_drew1) | exact HB.out)⟩⟩
  case round =>
    clear H'
    try clear p2
    obtain ⟨x5_1, x6_1, rfl, HA, HK1, HO_5, HB⟩ := hrel
    cases gk with
    | zero => exact absurd HA.out (by simp [runnelref19_Open.l0])
    | succ k1 =>
      have H := HA.out
      clear HA
      simp only [runnelref19_Open.l0] at H
      by_cases c3 : x6_1 < a1
      · rw [if_pos c3] at H
        have c3b0 : decide (x6_1 < a1) = true := decide_eq_true c3
        clear c3
        by_cases c4 : 0 ≤ x6_1
        · rw [if_pos c4] at H
          have c4b0 : decide (0 ≤ x6_1) = true := decide_eq_true c4
          clear c4
          by_cases c5 : x6_1 < (l0.length : Int)
          · rw [if_pos c5] at H
            have c5b0 : decide (x6_1 < (l0.length : Int)) = true := decide_eq_true c5
            clear c5
            by_cases c6 : ((rd_T27 l0 x6_1).f4) = 123
            · rw [if_pos c6] at H
              have c6b0 : (((rd_T27 l0 x6_1).f4) == 123) = true := beq_iff_eq.mpr c6
              have c6b1 : (((rd_T27 l0 x6_1).f4) != 123) = false := bne_eq_false_iff_eq.mpr c6
              clear c6
              by_cases c7 : x5_1.length < 17592186044416
              · rw [if_pos c7] at H
                have LMc7 := Aside0.mk c7
                clear c7
                obtain ⟨y110, hy110⟩ : ∃ y_ : List Int, y_ = (x5_1 ++ [x6_1]) := ⟨_, rfl⟩
                replace H : (if ((rd_T27 l0 x6_1).f4) = 125 then (if (y110.length : Int) > 0 then (if 0 ≤ (wrap64 ((y110.length : Int) - 1)) then (if (wrap64 ((y110.length : Int) - 1)) ≤ (y110.length : Int) then (runnelref19_Open.l0 k1 l0 a1 (y110.take ((wrap64 ((y110.length : Int) - 1)) : Int).toNat) (wrap64 (x6_1 + 1))) else (none)) else (none)) else (runnelref19_Open.l0 k1 l0 a1 y110 (wrap64 (x6_1 + 1)))) else (runnelref19_Open.l0 k1 l0 a1 y110 (wrap64 (x6_1 + 1)))) = some r := by first | (rw [hy110]; with_reducible exact H) | (have H2_ := (Option.bind_some _ _).symm.trans H; rw [hy110]; with_reducible exact H2_) | (have H2_ := (Option.bind_some _ _).symm.trans H; with_reducible exact H2_) | with_reducible exact H | (rw [hy110]; exact H) | exact H
                have Ny110 := Aside0.mk hy110
                clear hy110
                by_cases c8 : ((rd_T27 l0 x6_1).f4) = 125
                · rw [if_pos c8] at H
                  have c8b0 : (((rd_T27 l0 x6_1).f4) == 125) = true := beq_iff_eq.mpr c8
                  have c8b1 : (((rd_T27 l0 x6_1).f4) != 125) = false := bne_eq_false_iff_eq.mpr c8
                  clear c8
                  by_cases c9 : (y110.length : Int) > 0
                  · rw [if_pos c9] at H
                    have c9b0 : decide (0 < (y110.length : Int)) = true := decide_eq_true c9
                    have c9b1 : decide (0 < y110.length) = true := decide_eq_true (by omega)
                    clear c9
                    obtain ⟨ji10, hji10⟩ : ∃ j_ : Int, (wrap64 ((y110.length : Int) - 1)) = j_ := ⟨_, rfl⟩
                    replace H : (if 0 ≤ (ji10) then (if (ji10) ≤ (y110.length : Int) then (runnelref19_Open.l0 k1 l0 a1 (y110.take ((ji10) : Int).toNat) (wrap64 (x6_1 + 1))) else (none)) else (none)) = some r := by first | (rw [hji10] at H; exact H) | (simp only [hji10] at H ⊢; exact H)
                    have hji10w : (IntKind.i64.wrap ((y110.length : Int) - 1)) = ji10 := (i64_w _).trans hji10
                    by_cases c11 : 0 ≤ (ji10)
                    · rw [if_pos c11] at H
                      have c11b0 := eq_true c11
                      have c11b1 : decide (0 ≤ (ji10)) = true := decide_eq_true c11
                      clear c11
                      by_cases c12 : (ji10) ≤ (y110.length : Int)
                      · rw [if_pos c12] at H
                        have c12b0 := eq_true c12
                        have c12b1 : decide ((ji10) ≤ (y110.length : Int)) = true := decide_eq_true c12
                        clear c12
                        obtain ⟨y114, hy114⟩ : ∃ y_ : List Int, y_ = (y110.take ((ji10) : Int).toNat) := ⟨_, rfl⟩
                        replace H : (runnelref19_Open.l0 k1 l0 a1 y114 (wrap64 (x6_1 + 1))) = some r := by first | (rw [hy114]; with_reducible exact H) | (have H2_ := (Option.bind_some _ _).symm.trans H; rw [hy114]; with_reducible exact H2_) | (have H2_ := (Option.bind_some _ _).symm.trans H; with_reducible exact H2_) | with_reducible exact H | (rw [hy114]; exact H) | exact H
                        have Ny114 := Aside0.mk hy114
                        clear hy114
                        have H' := Aside0.mk H
                        clear H
                        have p109 : 0 ≤ (x6_1 : Int) := of_decide_eq_true (by first | (with_reducible assumption) | assumption)
                        have q109 : x6_1 < (l0.length : Int) := of_decide_eq_true (by first | (with_reducible assumption) | assumption)
                        obtain ⟨ad109, A109_13, c109_13, e109, hx109_0, hx109_1, hx109_2, hx109_3, hx109_4, hx109_5, hx109_6, hx109_7, hx109_8, hx109_9, hx109_10, hx109_11, hx109_12, hx109_13, hx109_14, hx109_15, hx109_16, hx109_17, hx109_18, hl109_13, hi109_13⟩ := at_T27 HR0.out x6_1 p109 q109
                        cases e109
                        replace hx109_0 := (HB.out.cell (World.block_lt_of_cell? w _ hx109_0)).trans hx109_0
                        replace hx109_1 := (HB.out.cell (World.block_lt_of_cell? w _ hx109_1)).trans hx109_1
                        replace hx109_2 := (HB.out.cell (World.block_lt_of_cell? w _ hx109_2)).trans hx109_2
                        replace hx109_3 := (HB.out.cell (World.block_lt_of_cell? w _ hx109_3)).trans hx109_3
                        replace hx109_4 := (HB.out.cell (World.block_lt_of_cell? w _ hx109_4)).trans hx109_4
                        replace hx109_5 := (HB.out.cell (World.block_lt_of_cell? w _ hx109_5)).trans hx109_5
                        replace hx109_6 := (HB.out.cell (World.block_lt_of_cell? w _ hx109_6)).trans hx109_6
                        replace hx109_7 := (HB.out.cell (World.block_lt_of_cell? w _ hx109_7)).trans hx109_7
                        replace hx109_8 := (HB.out.cell (World.block_lt_of_cell? w _ hx109_8)).trans hx109_8
                        replace hx109_9 := (HB.out.cell (World.block_lt_of_cell? w _ hx109_9)).trans hx109_9
                        replace hx109_10 := (HB.out.cell (World.block_lt_of_cell? w _ hx109_10)).trans hx109_10
                        replace hx109_11 := (HB.out.cell (World.block_lt_of_cell? w _ hx109_11)).trans hx109_11
                        replace hx109_12 := (HB.out.cell (World.block_lt_of_cell? w _ hx109_12)).trans hx109_12
                        replace hx109_13 := (HB.out.cell (World.block_lt_of_cell? w _ hx109_13)).trans hx109_13
                        replace hx109_14 := (HB.out.cell (World.block_lt_of_cell? w _ hx109_14)).trans hx109_14
                        replace hx109_15 := (HB.out.cell (World.block_lt_of_cell? w _ hx109_15)).trans hx109_15
                        replace hx109_16 := (HB.out.cell (World.block_lt_of_cell? w _ hx109_16)).trans hx109_16
                        replace hx109_17 := (HB.out.cell (World.block_lt_of_cell? w _ hx109_17)).trans hx109_17
                        replace hx109_18 := (HB.out.cell (World.block_lt_of_cell? w _ hx109_18)).trans hx109_18
                        have HR109_13 := Aside0.mk hi109_13
                        have HC109_13 := Aside0.mk hl109_13
                        clear hi109_13 hl109_13
                        replace p109 := eq_true p109
                        replace q109 := eq_true q109
                        go_wp2_with (first | ((with_reducible refine gate_builtin (b := .append) (xs := #[.tmp 18, .tmp 20]) rfl ?_); (try (refine gate_guard (by rfl) ?_; dsimp only)); at_builtin; refine Kd.R_append (Kd.int .i64) (w0 := w) w.heap.size rfl (.tmp 18) (.tmp 20) 102 3 (.int .i64 0) 8 rfl Try.underlying102 info3 rfl (by decide) (by omega) u5 x5_1 x6_1 [.int .i64 x6_1] (fun _ => True) (fun _ => False) rfl rfl ?aP (fun _ hk => hk.elim) ?aF ?aO ?aB ?aS ?aL ?_; (case aP => exact rfl); (case aB => exact (by repeat (first | (with_reducible first | exact HB.out | apply below_alloc | apply pw_below_drewN | apply below_drew1) | exact HB.out))); (case aF => exact (fun _ _ => trivial)); (case aO => exact (by (with_reducible repeat (first | apply Kd.R_alloc | apply Kd.R_drewN | apply Kd.R_drew)); exact HO_5.out)); (case aS => exact (below_size (by repeat (first | (with_reducible first | exact HB.out | apply below_alloc | apply pw_below_drewN | apply below_drew1) | exact HB.out)))); (case aL => have := LMc7.out; omega); intro v111 w13 ho hb hg hat; rw [← Ny110.out] at ho; have n0_ := Aside0.mk (hb); have n1_ := Aside0.mk (ho); clear HB; clear HO_5; have HB := n0_; have HO112 := n1_; clear n0_ n1_; clear ho hb hg hat; have p113 : 0 ≤ (x6_1 : Int) := of_decide_eq_true (by first | (with_reducible assumption) | assumption); have q113 : x6_1 < (l0.length : Int) := of_decide_eq_true (by first | (with_reducible assumption) | assumption); obtain ⟨ad113, A113_13, c113_13, e113, hx113_0, hx113_1, hx113_2, hx113_3, hx113_4, hx113_5, hx113_6, hx113_7, hx113_8, hx113_9, hx113_10, hx113_11, hx113_12, hx113_13, hx113_14, hx113_15, hx113_16, hx113_17, hx113_18, hl113_13, hi113_13⟩ := at_T27 HR0.out x6_1 p113 q113; obtain rfl : ad109 = ad113 := (by injection e113); replace hx113_0 := (HB.out.cell (World.block_lt_of_cell? w _ hx113_0)).trans hx113_0; replace hx113_1 := (HB.out.cell (World.block_lt_of_cell? w _ hx113_1)).trans hx113_1; replace hx113_2 := (HB.out.cell (World.block_lt_of_cell? w _ hx113_2)).trans hx113_2; replace hx113_3 := (HB.out.cell (World.block_lt_of_cell? w _ hx113_3)).trans hx113_3; replace hx113_4 := (HB.out.cell (World.block_lt_of_cell? w _ hx113_4)).trans hx113_4; replace hx113_5 := (HB.out.cell (World.block_lt_of_cell? w _ hx113_5)).trans hx113_5; replace hx113_6 := (HB.out.cell (World.block_lt_of_cell? w _ hx113_6)).trans hx113_6; replace hx113_7 := (HB.out.cell (World.block_lt_of_cell? w _ hx113_7)).trans hx113_7; replace hx113_8 := (HB.out.cell (World.block_lt_of_cell? w _ hx113_8)).trans hx113_8; replace hx113_9 := (HB.out.cell (World.block_lt_of_cell? w _ hx113_9)).trans hx113_9; replace hx113_10 := (HB.out.cell (World.block_lt_of_cell? w _ hx113_10)).trans hx113_10; replace hx113_11 := (HB.out.cell (World.block_lt_of_cell? w _ hx113_11)).trans hx113_11; replace hx113_12 := (HB.out.cell (World.block_lt_of_cell? w _ hx113_12)).trans hx113_12; replace hx113_13 := (HB.out.cell (World.block_lt_of_cell? w _ hx113_13)).trans hx113_13; replace hx113_14 := (HB.out.cell (World.block_lt_of_cell? w _ hx113_14)).trans hx113_14; replace hx113_15 := (HB.out.cell (World.block_lt_of_cell? w _ hx113_15)).trans hx113_15; replace hx113_16 := (HB.out.cell (World.block_lt_of_cell? w _ hx113_16)).trans hx113_16; replace hx113_17 := (HB.out.cell (World.block_lt_of_cell? w _ hx113_17)).trans hx113_17; replace hx113_18 := (HB.out.cell (World.block_lt_of_cell? w _ hx113_18)).trans hx113_18; have HR113_13 := Aside0.mk hi113_13; have HC113_13 := Aside0.mk hl113_13; clear hi113_13 hl113_13; replace p113 := eq_true p113; replace q113 := eq_true q113; obtain ⟨Ao14, co14, eo14⟩ := Kd.R_slice HO112.out; subst eo14; have q15 : ((ji10) : Int) ≤ ((y110.length : Int) : Int) := of_decide_eq_true (by first | (with_reducible assumption) | assumption); obtain ⟨i015, hi015, _, hsz15, _⟩ := info_parts info3; have hcut15 := cut_to (P := Try.prog) 102 3 .i64 Try.underlying102 hi015 Ao14 y110.length co14 (ji10) (of_decide_eq_true (by first | (with_reducible assumption) | assumption)) q15 (Kd.R_reads' HO112.out).2.1; have hr15 := Kd.R_take (m := ((ji10) : Int).toNat) HO112.out (by omega); have hy15 : y114.length = ((ji10) : Int).toNat := (by rw [Ny114.out, List.length_take]; omega); rw [← Ny114.out] at hr15; rw [← hy15] at hr15 hcut15; clear hy15 hi015 hsz15 HO112; have HO116 := Aside0.mk hr15; clear hr15; replace q15 := eq_true q15))
                        go_roundg k1
                        case measure => have := HK1.out; omega
                        case rel => exact ⟨(y114), (wrap64 (x6_1 + 1)), (by first | rfl | (simp; done) | (simp [*]; done)), (by first | exact H' | (simp only [hji10]; exact H')), ⟨by have := HK1.out; omega⟩, ⟨by (with_reducible repeat (first | apply Kd.R_alloc | apply Kd.R_drewN | apply Kd.R_drew)); exact HO116.out⟩, ⟨by repeat (first | (with_reducible first | exact HB.out | apply below_alloc | apply pw_below_drewN | apply below_drew1) | exact HB.out)⟩⟩
                      · rw [if_neg c12] at H
                        exact absurd H (by simp)
                    · rw [if_neg c11] at H
                      exact absurd H (by simp)
                  · rw [if_neg c9] at H
                    have c9b0 : decide (0 < (y110.length : Int)) = false := decide_eq_false c9
                    have c9b1 : decide (0 < y110.length) = false := decide_eq_false (by omega)
                    clear c9
                    have H' := Aside0.mk H
                    clear H
                    have p109 : 0 ≤ (x6_1 : Int) := of_decide_eq_true (by first | (with_reducible assumption) | assumption)
                    have q109 : x6_1 < (l0.length : Int) := of_decide_eq_true (by first | (with_reducible assumption) | assumption)
                    obtain ⟨ad109, A109_13, c109_13, e109, hx109_0, hx109_1, hx109_2, hx109_3, hx109_4, hx109_5, hx109_6, hx109_7, hx109_8, hx109_9, hx109_10, hx109_11, hx109_12, hx109_13, hx109_14, hx109_15, hx109_16, hx109_17, hx109_18, hl109_13, hi109_13⟩ := at_T27 HR0.out x6_1 p109 q109
                    cases e109
                    replace hx109_0 := (HB.out.cell (World.block_lt_of_cell? w _ hx109_0)).trans hx109_0
                    replace hx109_1 := (HB.out.cell (World.block_lt_of_cell? w _ hx109_1)).trans hx109_1
                    replace hx109_2 := (HB.out.cell (World.block_lt_of_cell? w _ hx109_2)).trans hx109_2
                    replace hx109_3 := (HB.out.cell (World.block_lt_of_cell? w _ hx109_3)).trans hx109_3
                    replace hx109_4 := (HB.out.cell (World.block_lt_of_cell? w _ hx109_4)).trans hx109_4
                    replace hx109_5 := (HB.out.cell (World.block_lt_of_cell? w _ hx109_5)).trans hx109_5
                    replace hx109_6 := (HB.out.cell (World.block_lt_of_cell? w _ hx109_6)).trans hx109_6
                    replace hx109_7 := (HB.out.cell (World.block_lt_of_cell? w _ hx109_7)).trans hx109_7
                    replace hx109_8 := (HB.out.cell (World.block_lt_of_cell? w _ hx109_8)).trans hx109_8
                    replace hx109_9 := (HB.out.cell (World.block_lt_of_cell? w _ hx109_9)).trans hx109_9
                    replace hx109_10 := (HB.out.cell (World.block_lt_of_cell? w _ hx109_10)).trans hx109_10
                    replace hx109_11 := (HB.out.cell (World.block_lt_of_cell? w _ hx109_11)).trans hx109_11
                    replace hx109_12 := (HB.out.cell (World.block_lt_of_cell? w _ hx109_12)).trans hx109_12
                    replace hx109_13 := (HB.out.cell (World.block_lt_of_cell? w _ hx109_13)).trans hx109_13
                    replace hx109_14 := (HB.out.cell (World.block_lt_of_cell? w _ hx109_14)).trans hx109_14
                    replace hx109_15 := (HB.out.cell (World.block_lt_of_cell? w _ hx109_15)).trans hx109_15
                    replace hx109_16 := (HB.out.cell (World.block_lt_of_cell? w _ hx109_16)).trans hx109_16
                    replace hx109_17 := (HB.out.cell (World.block_lt_of_cell? w _ hx109_17)).trans hx109_17
                    replace hx109_18 := (HB.out.cell (World.block_lt_of_cell? w _ hx109_18)).trans hx109_18
                    have HR109_13 := Aside0.mk hi109_13
                    have HC109_13 := Aside0.mk hl109_13
                    clear hi109_13 hl109_13
                    replace p109 := eq_true p109
                    replace q109 := eq_true q109
                    go_wp2_with (first | ((with_reducible refine gate_builtin (b := .append) (xs := #[.tmp 18, .tmp 20]) rfl ?_); (try (refine gate_guard (by rfl) ?_; dsimp only)); at_builtin; refine Kd.R_append (Kd.int .i64) (w0 := w) w.heap.size rfl (.tmp 18) (.tmp 20) 102 3 (.int .i64 0) 8 rfl Try.underlying102 info3 rfl (by decide) (by omega) u5 x5_1 x6_1 [.int .i64 x6_1] (fun _ => True) (fun _ => False) rfl rfl ?aP (fun _ hk => hk.elim) ?aF ?aO ?aB ?aS ?aL ?_; (case aP => exact rfl); (case aB => exact (by repeat (first | (with_reducible first | exact HB.out | apply below_alloc | apply pw_below_drewN | apply below_drew1) | exact HB.out))); (case aF => exact (fun _ _ => trivial)); (case aO => exact (by (with_reducible repeat (first | apply Kd.R_alloc | apply Kd.R_drewN | apply Kd.R_drew)); exact HO_5.out)); (case aS => exact (below_size (by repeat (first | (with_reducible first | exact HB.out | apply below_alloc | apply pw_below_drewN | apply below_drew1) | exact HB.out)))); (case aL => have := LMc7.out; omega); intro v111 w16 ho hb hg hat; rw [← Ny110.out] at ho; have n0_ := Aside0.mk (hb); have n1_ := Aside0.mk (ho); clear HB; clear HO_5; have HB := n0_; have HO112 := n1_; clear n0_ n1_; clear ho hb hg hat; have p113 : 0 ≤ (x6_1 : Int) := of_decide_eq_true (by first | (with_reducible assumption) | assumption); have q113 : x6_1 < (l0.length : Int) := of_decide_eq_true (by first | (with_reducible assumption) | assumption); obtain ⟨ad113, A113_13, c113_13, e113, hx113_0, hx113_1, hx113_2, hx113_3, hx113_4, hx113_5, hx113_6, hx113_7, hx113_8, hx113_9, hx113_10, hx113_11, hx113_12, hx113_13, hx113_14, hx113_15, hx113_16, hx113_17, hx113_18, hl113_13, hi113_13⟩ := at_T27 HR0.out x6_1 p113 q113; obtain rfl : ad109 = ad113 := (by injection e113); replace hx113_0 := (HB.out.cell (World.block_lt_of_cell? w _ hx113_0)).trans hx113_0; replace hx113_1 := (HB.out.cell (World.block_lt_of_cell? w _ hx113_1)).trans hx113_1; replace hx113_2 := (HB.out.cell (World.block_lt_of_cell? w _ hx113_2)).trans hx113_2; replace hx113_3 := (HB.out.cell (World.block_lt_of_cell? w _ hx113_3)).trans hx113_3; replace hx113_4 := (HB.out.cell (World.block_lt_of_cell? w _ hx113_4)).trans hx113_4; replace hx113_5 := (HB.out.cell (World.block_lt_of_cell? w _ hx113_5)).trans hx113_5; replace hx113_6 := (HB.out.cell (World.block_lt_of_cell? w _ hx113_6)).trans hx113_6; replace hx113_7 := (HB.out.cell (World.block_lt_of_cell? w _ hx113_7)).trans hx113_7; replace hx113_8 := (HB.out.cell (World.block_lt_of_cell? w _ hx113_8)).trans hx113_8; replace hx113_9 := (HB.out.cell (World.block_lt_of_cell? w _ hx113_9)).trans hx113_9; replace hx113_10 := (HB.out.cell (World.block_lt_of_cell? w _ hx113_10)).trans hx113_10; replace hx113_11 := (HB.out.cell (World.block_lt_of_cell? w _ hx113_11)).trans hx113_11; replace hx113_12 := (HB.out.cell (World.block_lt_of_cell? w _ hx113_12)).trans hx113_12; replace hx113_13 := (HB.out.cell (World.block_lt_of_cell? w _ hx113_13)).trans hx113_13; replace hx113_14 := (HB.out.cell (World.block_lt_of_cell? w _ hx113_14)).trans hx113_14; replace hx113_15 := (HB.out.cell (World.block_lt_of_cell? w _ hx113_15)).trans hx113_15; replace hx113_16 := (HB.out.cell (World.block_lt_of_cell? w _ hx113_16)).trans hx113_16; replace hx113_17 := (HB.out.cell (World.block_lt_of_cell? w _ hx113_17)).trans hx113_17; replace hx113_18 := (HB.out.cell (World.block_lt_of_cell? w _ hx113_18)).trans hx113_18; have HR113_13 := Aside0.mk hi113_13; have HC113_13 := Aside0.mk hl113_13; clear hi113_13 hl113_13; replace p113 := eq_true p113; replace q113 := eq_true q113; obtain ⟨Ao17, co17, eo17⟩ := Kd.R_slice HO112.out; subst eo17))
                    go_roundg k1
                    case measure => have := HK1.out; omega
                    case rel => exact ⟨(y110), (wrap64 (x6_1 + 1)), (by first | rfl | (simp; done) | (simp [*]; done)), H', ⟨by have := HK1.out; omega⟩, ⟨by (with_reducible repeat (first | apply Kd.R_alloc | apply Kd.R_drewN | apply Kd.R_drew)); exact HO112.out⟩, ⟨by repeat (first | (with_reducible first | exact HB.out | apply below_alloc | apply pw_below_drewN | apply below_drew1) | exact HB.out)⟩⟩
                · rw [if_neg c8] at H
                  have c8b0 : (((rd_T27 l0 x6_1).f4) == 125) = false := beq_eq_false_iff_ne.mpr c8
                  have c8b1 : (((rd_T27 l0 x6_1).f4) != 125) = true := bne_iff_ne.mpr c8
                  have H' := Aside0.mk H
                  clear H
                  have p109 : 0 ≤ (x6_1 : Int) := of_decide_eq_true (by first | (with_reducible assumption) | assumption)
                  have q109 : x6_1 < (l0.length : Int) := of_decide_eq_true (by first | (with_reducible assumption) | assumption)
                  obtain ⟨ad109, A109_13, c109_13, e109, hx109_0, hx109_1, hx109_2, hx109_3, hx109_4, hx109_5, hx109_6, hx109_7, hx109_8, hx109_9, hx109_10, hx109_11, hx109_12, hx109_13, hx109_14, hx109_15, hx109_16, hx109_17, hx109_18, hl109_13, hi109_13⟩ := at_T27 HR0.out x6_1 p109 q109
                  cases e109
                  replace hx109_0 := (HB.out.cell (World.block_lt_of_cell? w _ hx109_0)).trans hx109_0
                  replace hx109_1 := (HB.out.cell (World.block_lt_of_cell? w _ hx109_1)).trans hx109_1
                  replace hx109_2 := (HB.out.cell (World.block_lt_of_cell? w _ hx109_2)).trans hx109_2
                  replace hx109_3 := (HB.out.cell (World.block_lt_of_cell? w _ hx109_3)).trans hx109_3
                  replace hx109_4 := (HB.out.cell (World.block_lt_of_cell? w _ hx109_4)).trans hx109_4
                  replace hx109_5 := (HB.out.cell (World.block_lt_of_cell? w _ hx109_5)).trans hx109_5
                  replace hx109_6 := (HB.out.cell (World.block_lt_of_cell? w _ hx109_6)).trans hx109_6
                  replace hx109_7 := (HB.out.cell (World.block_lt_of_cell? w _ hx109_7)).trans hx109_7
                  replace hx109_8 := (HB.out.cell (World.block_lt_of_cell? w _ hx109_8)).trans hx109_8
                  replace hx109_9 := (HB.out.cell (World.block_lt_of_cell? w _ hx109_9)).trans hx109_9
                  replace hx109_10 := (HB.out.cell (World.block_lt_of_cell? w _ hx109_10)).trans hx109_10
                  replace hx109_11 := (HB.out.cell (World.block_lt_of_cell? w _ hx109_11)).trans hx109_11
                  replace hx109_12 := (HB.out.cell (World.block_lt_of_cell? w _ hx109_12)).trans hx109_12
                  replace hx109_13 := (HB.out.cell (World.block_lt_of_cell? w _ hx109_13)).trans hx109_13
                  replace hx109_14 := (HB.out.cell (World.block_lt_of_cell? w _ hx109_14)).trans hx109_14
                  replace hx109_15 := (HB.out.cell (World.block_lt_of_cell? w _ hx109_15)).trans hx109_15
                  replace hx109_16 := (HB.out.cell (World.block_lt_of_cell? w _ hx109_16)).trans hx109_16
                  replace hx109_17 := (HB.out.cell (World.block_lt_of_cell? w _ hx109_17)).trans hx109_17
                  replace hx109_18 := (HB.out.cell (World.block_lt_of_cell? w _ hx109_18)).trans hx109_18
                  have HR109_13 := Aside0.mk hi109_13
                  have HC109_13 := Aside0.mk hl109_13
                  clear hi109_13 hl109_13
                  replace p109 := eq_true p109
                  replace q109 := eq_true q109
                  go_wp2_with (first | ((with_reducible refine gate_builtin (b := .append) (xs := #[.tmp 18, .tmp 20]) rfl ?_); (try (refine gate_guard (by rfl) ?_; dsimp only)); at_builtin; refine Kd.R_append (Kd.int .i64) (w0 := w) w.heap.size rfl (.tmp 18) (.tmp 20) 102 3 (.int .i64 0) 8 rfl Try.underlying102 info3 rfl (by decide) (by omega) u5 x5_1 x6_1 [.int .i64 x6_1] (fun _ => True) (fun _ => False) rfl rfl ?aP (fun _ hk => hk.elim) ?aF ?aO ?aB ?aS ?aL ?_; (case aP => exact rfl); (case aB => exact (by repeat (first | (with_reducible first | exact HB.out | apply below_alloc | apply pw_below_drewN | apply below_drew1) | exact HB.out))); (case aF => exact (fun _ _ => trivial)); (case aO => exact (by (with_reducible repeat (first | apply Kd.R_alloc | apply Kd.R_drewN | apply Kd.R_drew)); exact HO_5.out)); (case aS => exact (below_size (by repeat (first | (with_reducible first | exact HB.out | apply below_alloc | apply pw_below_drewN | apply below_drew1) | exact HB.out)))); (case aL => have := LMc7.out; omega); intro v111 w18 ho hb hg hat; rw [← Ny110.out] at ho; have n0_ := Aside0.mk (hb); have n1_ := Aside0.mk (ho); clear HB; clear HO_5; have HB := n0_; have HO112 := n1_; clear n0_ n1_; clear ho hb hg hat; have p113 : 0 ≤ (x6_1 : Int) := of_decide_eq_true (by first | (with_reducible assumption) | assumption); have q113 : x6_1 < (l0.length : Int) := of_decide_eq_true (by first | (with_reducible assumption) | assumption); obtain ⟨ad113, A113_13, c113_13, e113, hx113_0, hx113_1, hx113_2, hx113_3, hx113_4, hx113_5, hx113_6, hx113_7, hx113_8, hx113_9, hx113_10, hx113_11, hx113_12, hx113_13, hx113_14, hx113_15, hx113_16, hx113_17, hx113_18, hl113_13, hi113_13⟩ := at_T27 HR0.out x6_1 p113 q113; obtain rfl : ad109 = ad113 := (by injection e113); replace hx113_0 := (HB.out.cell (World.block_lt_of_cell? w _ hx113_0)).trans hx113_0; replace hx113_1 := (HB.out.cell (World.block_lt_of_cell? w _ hx113_1)).trans hx113_1; replace hx113_2 := (HB.out.cell (World.block_lt_of_cell? w _ hx113_2)).trans hx113_2; replace hx113_3 := (HB.out.cell (World.block_lt_of_cell? w _ hx113_3)).trans hx113_3; replace hx113_4 := (HB.out.cell (World.block_lt_of_cell? w _ hx113_4)).trans hx113_4; replace hx113_5 := (HB.out.cell (World.block_lt_of_cell? w _ hx113_5)).trans hx113_5; replace hx113_6 := (HB.out.cell (World.block_lt_of_cell? w _ hx113_6)).trans hx113_6; replace hx113_7 := (HB.out.cell (World.block_lt_of_cell? w _ hx113_7)).trans hx113_7; replace hx113_8 := (HB.out.cell (World.block_lt_of_cell? w _ hx113_8)).trans hx113_8; replace hx113_9 := (HB.out.cell (World.block_lt_of_cell? w _ hx113_9)).trans hx113_9; replace hx113_10 := (HB.out.cell (World.block_lt_of_cell? w _ hx113_10)).trans hx113_10; replace hx113_11 := (HB.out.cell (World.block_lt_of_cell? w _ hx113_11)).trans hx113_11; replace hx113_12 := (HB.out.cell (World.block_lt_of_cell? w _ hx113_12)).trans hx113_12; replace hx113_13 := (HB.out.cell (World.block_lt_of_cell? w _ hx113_13)).trans hx113_13; replace hx113_14 := (HB.out.cell (World.block_lt_of_cell? w _ hx113_14)).trans hx113_14; replace hx113_15 := (HB.out.cell (World.block_lt_of_cell? w _ hx113_15)).trans hx113_15; replace hx113_16 := (HB.out.cell (World.block_lt_of_cell? w _ hx113_16)).trans hx113_16; replace hx113_17 := (HB.out.cell (World.block_lt_of_cell? w _ hx113_17)).trans hx113_17; replace hx113_18 := (HB.out.cell (World.block_lt_of_cell? w _ hx113_18)).trans hx113_18; have HR113_13 := Aside0.mk hi113_13; have HC113_13 := Aside0.mk hl113_13; clear hi113_13 hl113_13; replace p113 := eq_true p113; replace q113 := eq_true q113))
                  go_roundg k1
                  case measure => have := HK1.out; omega
                  case rel => exact ⟨(y110), (wrap64 (x6_1 + 1)), (by first | rfl | (simp; done) | (simp [*]; done)), H', ⟨by have := HK1.out; omega⟩, ⟨by (with_reducible repeat (first | apply Kd.R_alloc | apply Kd.R_drewN | apply Kd.R_drew)); exact HO112.out⟩, ⟨by repeat (first | (with_reducible first | exact HB.out | apply below_alloc | apply pw_below_drewN | apply below_drew1) | exact HB.out)⟩⟩
              · rw [if_neg c7] at H
                exact absurd H (by simp)
            · rw [if_neg c6] at H
              have c6b0 : (((rd_T27 l0 x6_1).f4) == 123) = false := beq_eq_false_iff_ne.mpr c6
              have c6b1 : (((rd_T27 l0 x6_1).f4) != 123) = true := bne_iff_ne.mpr c6
              by_cases c19 : ((rd_T27 l0 x6_1).f4) = 125
              · rw [if_pos c19] at H
                have c19b0 : (((rd_T27 l0 x6_1).f4) == 125) = true := beq_iff_eq.mpr c19
                have c19b1 : (((rd_T27 l0 x6_1).f4) != 125) = false := bne_eq_false_iff_eq.mpr c19
                clear c19
                by_cases c20 : (x5_1.length : Int) > 0
                · rw [if_pos c20] at H
                  have c20b0 : decide (0 < (x5_1.length : Int)) = true := decide_eq_true c20
                  have c20b1 : decide (0 < x5_1.length) = true := decide_eq_true (by omega)
                  clear c20
                  obtain ⟨ji21, hji21⟩ : ∃ j_ : Int, (wrap64 ((x5_1.length : Int) - 1)) = j_ := ⟨_, rfl⟩
                  replace H : (if 0 ≤ (ji21) then (if (ji21) ≤ (x5_1.length : Int) then (runnelref19_Open.l0 k1 l0 a1 (x5_1.take ((ji21) : Int).toNat) (wrap64 (x6_1 + 1))) else (none)) else (none)) = some r := by first | (rw [hji21] at H; exact H) | (simp only [hji21] at H ⊢; exact H)
                  have hji21w : (IntKind.i64.wrap ((x5_1.length : Int) - 1)) = ji21 := (i64_w _).trans hji21
                  by_cases c22 : 0 ≤ (ji21)
                  · rw [if_pos c22] at H
                    have c22b0 := eq_true c22
                    have c22b1 : decide (0 ≤ (ji21)) = true := decide_eq_true c22
                    clear c22
                    by_cases c23 : (ji21) ≤ (x5_1.length : Int)
                    · rw [if_pos c23] at H
                      have c23b0 := eq_true c23
                      have c23b1 : decide ((ji21) ≤ (x5_1.length : Int)) = true := decide_eq_true c23
                      clear c23
                      obtain ⟨y118, hy118⟩ : ∃ y_ : List Int, y_ = (x5_1.take ((ji21) : Int).toNat) := ⟨_, rfl⟩
                      replace H : (runnelref19_Open.l0 k1 l0 a1 y118 (wrap64 (x6_1 + 1))) = some r := by first | (rw [hy118]; with_reducible exact H) | (have H2_ := (Option.bind_some _ _).symm.trans H; rw [hy118]; with_reducible exact H2_) | (have H2_ := (Option.bind_some _ _).symm.trans H; with_reducible exact H2_) | with_reducible exact H | (rw [hy118]; exact H) | exact H
                      have Ny118 := Aside0.mk hy118
                      clear hy118
                      have H' := Aside0.mk H
                      clear H
                      have p109 : 0 ≤ (x6_1 : Int) := of_decide_eq_true (by first | (with_reducible assumption) | assumption)
                      have q109 : x6_1 < (l0.length : Int) := of_decide_eq_true (by first | (with_reducible assumption) | assumption)
                      obtain ⟨ad109, A109_13, c109_13, e109, hx109_0, hx109_1, hx109_2, hx109_3, hx109_4, hx109_5, hx109_6, hx109_7, hx109_8, hx109_9, hx109_10, hx109_11, hx109_12, hx109_13, hx109_14, hx109_15, hx109_16, hx109_17, hx109_18, hl109_13, hi109_13⟩ := at_T27 HR0.out x6_1 p109 q109
                      cases e109
                      replace hx109_0 := (HB.out.cell (World.block_lt_of_cell? w _ hx109_0)).trans hx109_0
                      replace hx109_1 := (HB.out.cell (World.block_lt_of_cell? w _ hx109_1)).trans hx109_1
                      replace hx109_2 := (HB.out.cell (World.block_lt_of_cell? w _ hx109_2)).trans hx109_2
                      replace hx109_3 := (HB.out.cell (World.block_lt_of_cell? w _ hx109_3)).trans hx109_3
                      replace hx109_4 := (HB.out.cell (World.block_lt_of_cell? w _ hx109_4)).trans hx109_4
                      replace hx109_5 := (HB.out.cell (World.block_lt_of_cell? w _ hx109_5)).trans hx109_5
                      replace hx109_6 := (HB.out.cell (World.block_lt_of_cell? w _ hx109_6)).trans hx109_6
                      replace hx109_7 := (HB.out.cell (World.block_lt_of_cell? w _ hx109_7)).trans hx109_7
                      replace hx109_8 := (HB.out.cell (World.block_lt_of_cell? w _ hx109_8)).trans hx109_8
                      replace hx109_9 := (HB.out.cell (World.block_lt_of_cell? w _ hx109_9)).trans hx109_9
                      replace hx109_10 := (HB.out.cell (World.block_lt_of_cell? w _ hx109_10)).trans hx109_10
                      replace hx109_11 := (HB.out.cell (World.block_lt_of_cell? w _ hx109_11)).trans hx109_11
                      replace hx109_12 := (HB.out.cell (World.block_lt_of_cell? w _ hx109_12)).trans hx109_12
                      replace hx109_13 := (HB.out.cell (World.block_lt_of_cell? w _ hx109_13)).trans hx109_13
                      replace hx109_14 := (HB.out.cell (World.block_lt_of_cell? w _ hx109_14)).trans hx109_14
                      replace hx109_15 := (HB.out.cell (World.block_lt_of_cell? w _ hx109_15)).trans hx109_15
                      replace hx109_16 := (HB.out.cell (World.block_lt_of_cell? w _ hx109_16)).trans hx109_16
                      replace hx109_17 := (HB.out.cell (World.block_lt_of_cell? w _ hx109_17)).trans hx109_17
                      replace hx109_18 := (HB.out.cell (World.block_lt_of_cell? w _ hx109_18)).trans hx109_18
                      have HR109_13 := Aside0.mk hi109_13
                      have HC109_13 := Aside0.mk hl109_13
                      clear hi109_13 hl109_13
                      replace p109 := eq_true p109
                      replace q109 := eq_true q109
                      have p117 : 0 ≤ (x6_1 : Int) := of_decide_eq_true (by first | (with_reducible assumption) | assumption)
                      have q117 : x6_1 < (l0.length : Int) := of_decide_eq_true (by first | (with_reducible assumption) | assumption)
                      obtain ⟨ad117, A117_13, c117_13, e117, hx117_0, hx117_1, hx117_2, hx117_3, hx117_4, hx117_5, hx117_6, hx117_7, hx117_8, hx117_9, hx117_10, hx117_11, hx117_12, hx117_13, hx117_14, hx117_15, hx117_16, hx117_17, hx117_18, hl117_13, hi117_13⟩ := at_T27 HR0.out x6_1 p117 q117
                      obtain rfl : ad109 = ad117 := (by injection e117)
                      replace hx117_0 := (HB.out.cell (World.block_lt_of_cell? w _ hx117_0)).trans hx117_0
                      replace hx117_1 := (HB.out.cell (World.block_lt_of_cell? w _ hx117_1)).trans hx117_1
                      replace hx117_2 := (HB.out.cell (World.block_lt_of_cell? w _ hx117_2)).trans hx117_2
                      replace hx117_3 := (HB.out.cell (World.block_lt_of_cell? w _ hx117_3)).trans hx117_3
                      replace hx117_4 := (HB.out.cell (World.block_lt_of_cell? w _ hx117_4)).trans hx117_4
                      replace hx117_5 := (HB.out.cell (World.block_lt_of_cell? w _ hx117_5)).trans hx117_5
                      replace hx117_6 := (HB.out.cell (World.block_lt_of_cell? w _ hx117_6)).trans hx117_6
                      replace hx117_7 := (HB.out.cell (World.block_lt_of_cell? w _ hx117_7)).trans hx117_7
                      replace hx117_8 := (HB.out.cell (World.block_lt_of_cell? w _ hx117_8)).trans hx117_8
                      replace hx117_9 := (HB.out.cell (World.block_lt_of_cell? w _ hx117_9)).trans hx117_9
                      replace hx117_10 := (HB.out.cell (World.block_lt_of_cell? w _ hx117_10)).trans hx117_10
                      replace hx117_11 := (HB.out.cell (World.block_lt_of_cell? w _ hx117_11)).trans hx117_11
                      replace hx117_12 := (HB.out.cell (World.block_lt_of_cell? w _ hx117_12)).trans hx117_12
                      replace hx117_13 := (HB.out.cell (World.block_lt_of_cell? w _ hx117_13)).trans hx117_13
                      replace hx117_14 := (HB.out.cell (World.block_lt_of_cell? w _ hx117_14)).trans hx117_14
                      replace hx117_15 := (HB.out.cell (World.block_lt_of_cell? w _ hx117_15)).trans hx117_15
                      replace hx117_16 := (HB.out.cell (World.block_lt_of_cell? w _ hx117_16)).trans hx117_16
                      replace hx117_17 := (HB.out.cell (World.block_lt_of_cell? w _ hx117_17)).trans hx117_17
                      replace hx117_18 := (HB.out.cell (World.block_lt_of_cell? w _ hx117_18)).trans hx117_18
                      have HR117_13 := Aside0.mk hi117_13
                      have HC117_13 := Aside0.mk hl117_13
                      clear hi117_13 hl117_13
                      replace p117 := eq_true p117
                      replace q117 := eq_true q117
                      have ea_ := Option.some.inj (hx109_13.symm.trans hx117_13)
                      injection ea_ with ea_ en_ ec_
                      subst ea_
                      subst ec_
                      clear en_
                      obtain ⟨Ao24, co24, eo24⟩ := Kd.R_slice HO_5.out
                      subst eo24
                      have q25 : ((ji21) : Int) ≤ ((x5_1.length : Int) : Int) := of_decide_eq_true (by first | (with_reducible assumption) | assumption)
                      obtain ⟨i025, hi025, _, hsz25, _⟩ := info_parts info3
                      have hcut25 := cut_to (P := Try.prog) 102 3 .i64 Try.underlying102 hi025 Ao24 x5_1.length co24 (ji21) (of_decide_eq_true (by first | (with_reducible assumption) | assumption)) q25 (Kd.R_reads' HO_5.out).2.1
                      have hr25 := Kd.R_take (m := ((ji21) : Int).toNat) HO_5.out (by omega)
                      have hy25 : y118.length = ((ji21) : Int).toNat := (by rw [Ny118.out, List.length_take]; omega)
                      rw [← Ny118.out] at hr25
                      rw [← hy25] at hr25 hcut25
                      clear hy25 hi025 hsz25 HO_5
                      have HO120 := Aside0.mk hr25
                      clear hr25
                      replace q25 := eq_true q25
                      go_wp2
                      go_roundg k1
                      case measure => have := HK1.out; omega
                      case rel => exact ⟨(y118), (wrap64 (x6_1 + 1)), (by first | rfl | (simp; done) | (simp [*]; done)), (by first | exact H' | (simp only [hji21]; exact H')), ⟨by have := HK1.out; omega⟩, ⟨by (with_reducible repeat (first | apply Kd.R_alloc | apply Kd.R_drewN | apply Kd.R_drew)); exact HO120.out⟩, ⟨by repeat (first | (with_reducible first | exact HB.out | apply below_alloc | apply pw_below_drewN | apply below_drew1) | exact HB.out)⟩⟩
                    · rw [if_neg c23] at H
                      exact absurd H (by simp)
                  · rw [if_neg c22] at H
                    exact absurd H (by simp)
                · rw [if_neg c20] at H
                  have c20b0 : decide (0 < (x5_1.length : Int)) = false := decide_eq_false c20
                  have c20b1 : decide (0 < x5_1.length) = false := decide_eq_false (by omega)
                  clear c20
                  have H' := Aside0.mk H
                  clear H
                  have p109 : 0 ≤ (x6_1 : Int) := of_decide_eq_true (by first | (with_reducible assumption) | assumption)
                  have q109 : x6_1 < (l0.length : Int) := of_decide_eq_true (by first | (with_reducible assumption) | assumption)
                  obtain ⟨ad109, A109_13, c109_13, e109, hx109_0, hx109_1, hx109_2, hx109_3, hx109_4, hx109_5, hx109_6, hx109_7, hx109_8, hx109_9, hx109_10, hx109_11, hx109_12, hx109_13, hx109_14, hx109_15, hx109_16, hx109_17, hx109_18, hl109_13, hi109_13⟩ := at_T27 HR0.out x6_1 p109 q109
                  cases e109
                  replace hx109_0 := (HB.out.cell (World.block_lt_of_cell? w _ hx109_0)).trans hx109_0
                  replace hx109_1 := (HB.out.cell (World.block_lt_of_cell? w _ hx109_1)).trans hx109_1
                  replace hx109_2 := (HB.out.cell (World.block_lt_of_cell? w _ hx109_2)).trans hx109_2
                  replace hx109_3 := (HB.out.cell (World.block_lt_of_cell? w _ hx109_3)).trans hx109_3
                  replace hx109_4 := (HB.out.cell (World.block_lt_of_cell? w _ hx109_4)).trans hx109_4
                  replace hx109_5 := (HB.out.cell (World.block_lt_of_cell? w _ hx109_5)).trans hx109_5
                  replace hx109_6 := (HB.out.cell (World.block_lt_of_cell? w _ hx109_6)).trans hx109_6
                  replace hx109_7 := (HB.out.cell (World.block_lt_of_cell? w _ hx109_7)).trans hx109_7
                  replace hx109_8 := (HB.out.cell (World.block_lt_of_cell? w _ hx109_8)).trans hx109_8
                  replace hx109_9 := (HB.out.cell (World.block_lt_of_cell? w _ hx109_9)).trans hx109_9
                  replace hx109_10 := (HB.out.cell (World.block_lt_of_cell? w _ hx109_10)).trans hx109_10
                  replace hx109_11 := (HB.out.cell (World.block_lt_of_cell? w _ hx109_11)).trans hx109_11
                  replace hx109_12 := (HB.out.cell (World.block_lt_of_cell? w _ hx109_12)).trans hx109_12
                  replace hx109_13 := (HB.out.cell (World.block_lt_of_cell? w _ hx109_13)).trans hx109_13
                  replace hx109_14 := (HB.out.cell (World.block_lt_of_cell? w _ hx109_14)).trans hx109_14
                  replace hx109_15 := (HB.out.cell (World.block_lt_of_cell? w _ hx109_15)).trans hx109_15
                  replace hx109_16 := (HB.out.cell (World.block_lt_of_cell? w _ hx109_16)).trans hx109_16
                  replace hx109_17 := (HB.out.cell (World.block_lt_of_cell? w _ hx109_17)).trans hx109_17
                  replace hx109_18 := (HB.out.cell (World.block_lt_of_cell? w _ hx109_18)).trans hx109_18
                  have HR109_13 := Aside0.mk hi109_13
                  have HC109_13 := Aside0.mk hl109_13
                  clear hi109_13 hl109_13
                  replace p109 := eq_true p109
                  replace q109 := eq_true q109
                  have p117 : 0 ≤ (x6_1 : Int) := of_decide_eq_true (by first | (with_reducible assumption) | assumption)
                  have q117 : x6_1 < (l0.length : Int) := of_decide_eq_true (by first | (with_reducible assumption) | assumption)
                  obtain ⟨ad117, A117_13, c117_13, e117, hx117_0, hx117_1, hx117_2, hx117_3, hx117_4, hx117_5, hx117_6, hx117_7, hx117_8, hx117_9, hx117_10, hx117_11, hx117_12, hx117_13, hx117_14, hx117_15, hx117_16, hx117_17, hx117_18, hl117_13, hi117_13⟩ := at_T27 HR0.out x6_1 p117 q117
                  obtain rfl : ad109 = ad117 := (by injection e117)
                  replace hx117_0 := (HB.out.cell (World.block_lt_of_cell? w _ hx117_0)).trans hx117_0
                  replace hx117_1 := (HB.out.cell (World.block_lt_of_cell? w _ hx117_1)).trans hx117_1
                  replace hx117_2 := (HB.out.cell (World.block_lt_of_cell? w _ hx117_2)).trans hx117_2
                  replace hx117_3 := (HB.out.cell (World.block_lt_of_cell? w _ hx117_3)).trans hx117_3
                  replace hx117_4 := (HB.out.cell (World.block_lt_of_cell? w _ hx117_4)).trans hx117_4
                  replace hx117_5 := (HB.out.cell (World.block_lt_of_cell? w _ hx117_5)).trans hx117_5
                  replace hx117_6 := (HB.out.cell (World.block_lt_of_cell? w _ hx117_6)).trans hx117_6
                  replace hx117_7 := (HB.out.cell (World.block_lt_of_cell? w _ hx117_7)).trans hx117_7
                  replace hx117_8 := (HB.out.cell (World.block_lt_of_cell? w _ hx117_8)).trans hx117_8
                  replace hx117_9 := (HB.out.cell (World.block_lt_of_cell? w _ hx117_9)).trans hx117_9
                  replace hx117_10 := (HB.out.cell (World.block_lt_of_cell? w _ hx117_10)).trans hx117_10
                  replace hx117_11 := (HB.out.cell (World.block_lt_of_cell? w _ hx117_11)).trans hx117_11
                  replace hx117_12 := (HB.out.cell (World.block_lt_of_cell? w _ hx117_12)).trans hx117_12
                  replace hx117_13 := (HB.out.cell (World.block_lt_of_cell? w _ hx117_13)).trans hx117_13
                  replace hx117_14 := (HB.out.cell (World.block_lt_of_cell? w _ hx117_14)).trans hx117_14
                  replace hx117_15 := (HB.out.cell (World.block_lt_of_cell? w _ hx117_15)).trans hx117_15
                  replace hx117_16 := (HB.out.cell (World.block_lt_of_cell? w _ hx117_16)).trans hx117_16
                  replace hx117_17 := (HB.out.cell (World.block_lt_of_cell? w _ hx117_17)).trans hx117_17
                  replace hx117_18 := (HB.out.cell (World.block_lt_of_cell? w _ hx117_18)).trans hx117_18
                  have HR117_13 := Aside0.mk hi117_13
                  have HC117_13 := Aside0.mk hl117_13
                  clear hi117_13 hl117_13
                  replace p117 := eq_true p117
                  replace q117 := eq_true q117
                  have ea_ := Option.some.inj (hx109_13.symm.trans hx117_13)
                  injection ea_ with ea_ en_ ec_
                  subst ea_
                  subst ec_
                  clear en_
                  obtain ⟨Ao26, co26, eo26⟩ := Kd.R_slice HO_5.out
                  subst eo26
                  go_wp2
                  go_roundg k1
                  case measure => have := HK1.out; omega
                  case rel => exact ⟨(x5_1), (wrap64 (x6_1 + 1)), (by first | rfl | (simp; done) | (simp [*]; done)), H', ⟨by have := HK1.out; omega⟩, ⟨by (with_reducible repeat (first | apply Kd.R_alloc | apply Kd.R_drewN | apply Kd.R_drew)); exact HO_5.out⟩, ⟨by repeat (first | (with_reducible first | exact HB.out | apply below_alloc | apply pw_below_drewN | apply below_drew1) | exact HB.out)⟩⟩
              · rw [if_neg c19] at H
                have c19b0 : (((rd_T27 l0 x6_1).f4) == 125) = false := beq_eq_false_iff_ne.mpr c19
                have c19b1 : (((rd_T27 l0 x6_1).f4) != 125) = true := bne_iff_ne.mpr c19
                have H' := Aside0.mk H
                clear H
                have p109 : 0 ≤ (x6_1 : Int) := of_decide_eq_true (by first | (with_reducible assumption) | assumption)
                have q109 : x6_1 < (l0.length : Int) := of_decide_eq_true (by first | (with_reducible assumption) | assumption)
                obtain ⟨ad109, A109_13, c109_13, e109, hx109_0, hx109_1, hx109_2, hx109_3, hx109_4, hx109_5, hx109_6, hx109_7, hx109_8, hx109_9, hx109_10, hx109_11, hx109_12, hx109_13, hx109_14, hx109_15, hx109_16, hx109_17, hx109_18, hl109_13, hi109_13⟩ := at_T27 HR0.out x6_1 p109 q109
                cases e109
                replace hx109_0 := (HB.out.cell (World.block_lt_of_cell? w _ hx109_0)).trans hx109_0
                replace hx109_1 := (HB.out.cell (World.block_lt_of_cell? w _ hx109_1)).trans hx109_1
                replace hx109_2 := (HB.out.cell (World.block_lt_of_cell? w _ hx109_2)).trans hx109_2
                replace hx109_3 := (HB.out.cell (World.block_lt_of_cell? w _ hx109_3)).trans hx109_3
                replace hx109_4 := (HB.out.cell (World.block_lt_of_cell? w _ hx109_4)).trans hx109_4
                replace hx109_5 := (HB.out.cell (World.block_lt_of_cell? w _ hx109_5)).trans hx109_5
                replace hx109_6 := (HB.out.cell (World.block_lt_of_cell? w _ hx109_6)).trans hx109_6
                replace hx109_7 := (HB.out.cell (World.block_lt_of_cell? w _ hx109_7)).trans hx109_7
                replace hx109_8 := (HB.out.cell (World.block_lt_of_cell? w _ hx109_8)).trans hx109_8
                replace hx109_9 := (HB.out.cell (World.block_lt_of_cell? w _ hx109_9)).trans hx109_9
                replace hx109_10 := (HB.out.cell (World.block_lt_of_cell? w _ hx109_10)).trans hx109_10
                replace hx109_11 := (HB.out.cell (World.block_lt_of_cell? w _ hx109_11)).trans hx109_11
                replace hx109_12 := (HB.out.cell (World.block_lt_of_cell? w _ hx109_12)).trans hx109_12
                replace hx109_13 := (HB.out.cell (World.block_lt_of_cell? w _ hx109_13)).trans hx109_13
                replace hx109_14 := (HB.out.cell (World.block_lt_of_cell? w _ hx109_14)).trans hx109_14
                replace hx109_15 := (HB.out.cell (World.block_lt_of_cell? w _ hx109_15)).trans hx109_15
                replace hx109_16 := (HB.out.cell (World.block_lt_of_cell? w _ hx109_16)).trans hx109_16
                replace hx109_17 := (HB.out.cell (World.block_lt_of_cell? w _ hx109_17)).trans hx109_17
                replace hx109_18 := (HB.out.cell (World.block_lt_of_cell? w _ hx109_18)).trans hx109_18
                have HR109_13 := Aside0.mk hi109_13
                have HC109_13 := Aside0.mk hl109_13
                clear hi109_13 hl109_13
                replace p109 := eq_true p109
                replace q109 := eq_true q109
                have p117 : 0 ≤ (x6_1 : Int) := of_decide_eq_true (by first | (with_reducible assumption) | assumption)
                have q117 : x6_1 < (l0.length : Int) := of_decide_eq_true (by first | (with_reducible assumption) | assumption)
                obtain ⟨ad117, A117_13, c117_13, e117, hx117_0, hx117_1, hx117_2, hx117_3, hx117_4, hx117_5, hx117_6, hx117_7, hx117_8, hx117_9, hx117_10, hx117_11, hx117_12, hx117_13, hx117_14, hx117_15, hx117_16, hx117_17, hx117_18, hl117_13, hi117_13⟩ := at_T27 HR0.out x6_1 p117 q117
                obtain rfl : ad109 = ad117 := (by injection e117)
                replace hx117_0 := (HB.out.cell (World.block_lt_of_cell? w _ hx117_0)).trans hx117_0
                replace hx117_1 := (HB.out.cell (World.block_lt_of_cell? w _ hx117_1)).trans hx117_1
                replace hx117_2 := (HB.out.cell (World.block_lt_of_cell? w _ hx117_2)).trans hx117_2
                replace hx117_3 := (HB.out.cell (World.block_lt_of_cell? w _ hx117_3)).trans hx117_3
                replace hx117_4 := (HB.out.cell (World.block_lt_of_cell? w _ hx117_4)).trans hx117_4
                replace hx117_5 := (HB.out.cell (World.block_lt_of_cell? w _ hx117_5)).trans hx117_5
                replace hx117_6 := (HB.out.cell (World.block_lt_of_cell? w _ hx117_6)).trans hx117_6
                replace hx117_7 := (HB.out.cell (World.block_lt_of_cell? w _ hx117_7)).trans hx117_7
                replace hx117_8 := (HB.out.cell (World.block_lt_of_cell? w _ hx117_8)).trans hx117_8
                replace hx117_9 := (HB.out.cell (World.block_lt_of_cell? w _ hx117_9)).trans hx117_9
                replace hx117_10 := (HB.out.cell (World.block_lt_of_cell? w _ hx117_10)).trans hx117_10
                replace hx117_11 := (HB.out.cell (World.block_lt_of_cell? w _ hx117_11)).trans hx117_11
                replace hx117_12 := (HB.out.cell (World.block_lt_of_cell? w _ hx117_12)).trans hx117_12
                replace hx117_13 := (HB.out.cell (World.block_lt_of_cell? w _ hx117_13)).trans hx117_13
                replace hx117_14 := (HB.out.cell (World.block_lt_of_cell? w _ hx117_14)).trans hx117_14
                replace hx117_15 := (HB.out.cell (World.block_lt_of_cell? w _ hx117_15)).trans hx117_15
                replace hx117_16 := (HB.out.cell (World.block_lt_of_cell? w _ hx117_16)).trans hx117_16
                replace hx117_17 := (HB.out.cell (World.block_lt_of_cell? w _ hx117_17)).trans hx117_17
                replace hx117_18 := (HB.out.cell (World.block_lt_of_cell? w _ hx117_18)).trans hx117_18
                have HR117_13 := Aside0.mk hi117_13
                have HC117_13 := Aside0.mk hl117_13
                clear hi117_13 hl117_13
                replace p117 := eq_true p117
                replace q117 := eq_true q117
                have ea_ := Option.some.inj (hx109_13.symm.trans hx117_13)
                injection ea_ with ea_ en_ ec_
                subst ea_
                subst ec_
                clear en_
                go_wp2
                go_roundg k1
                case measure => have := HK1.out; omega
                case rel => exact ⟨(x5_1), (wrap64 (x6_1 + 1)), (by first | rfl | (simp; done) | (simp [*]; done)), H', ⟨by have := HK1.out; omega⟩, ⟨by (with_reducible repeat (first | apply Kd.R_alloc | apply Kd.R_drewN | apply Kd.R_drew)); exact HO_5.out⟩, ⟨by repeat (first | (with_reducible first | exact HB.out | apply below_alloc | apply pw_below_drewN | apply below_drew1) | exact HB.out)⟩⟩
          · rw [if_neg c5] at H
            exact absurd H (by simp)
        · rw [if_neg c4] at H
          exact absurd H (by simp)
      · rw [if_neg c3] at H
        have c3b0 : decide (x6_1 < a1) = false := decide_eq_false c3
        clear c3
        obtain rfl := Option.some.inj H
        go_wp2
        go_ret
        exact ⟨_, by first | rfl | (simp [errW_none, errW_some] <;> rfl) | (simp [*, errW_none, errW_some] <;> rfl), by (with_reducible repeat (first | apply Kd.R_alloc | apply Kd.R_drewN | apply Kd.R_drew)); exact HO_5.out, by repeat (first | (with_reducible first | exact HB.out | apply below_alloc | apply pw_below_drewN | apply below_drew1) | exact HB.out)⟩

end Go.Proofs.Ytdlbmajilmmapaa.F
