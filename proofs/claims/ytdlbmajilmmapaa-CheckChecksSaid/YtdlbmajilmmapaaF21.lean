-- Made by a program of this session (wip/tools/pr.py over the kit's printer). Not trusted: Lean checks it.
import Derived.Test.YtdlbmajilmmapaaLoads2
import Derived.Test.YtdlbmajilmmapaaFx
import Derived.Test.YtdlbmajilmmapaaF57
namespace Go.Proofs.Ytdlbmajilmmapaa.F
open Go.RowKit Go.Proofs.YtdlbmajilmmapaaW.PrintWords Go.Proofs.YtdlbmajilmmapaaW.PrintLast Go.Proofs.YtdlbmajilmmapaaW.PrintMore
attribute [local go_sem] max2_int min2_int max_two min_two max_three min_three max_four min_four
set_option linter.unusedVariables false
set_option linter.unusedSimpArgs false

/-! ### runnelref18_SameList: function 21 -/
def runnelref18_SameList.l0 : Nat → List (S27) → List (S27) → Bool → Int → Option (Bool)
  | 0, _, _, _, _ => none
  | k + 1, x0, x1, x2, x7 => if x7 < (x0.length : Int) then (if 0 ≤ x7 then (if x7 < (x1.length : Int) then ((runnelref18_Same.f ((rd_T27 x0 x7).f0) ((rd_T27 x0 x7).f1.f0) ((rd_T27 x0 x7).f1.f1) ((rd_T27 x0 x7).f1.f2) ((rd_T27 x0 x7).f2.f0) ((rd_T27 x0 x7).f2.f1) ((rd_T27 x0 x7).f2.f2) ((rd_T27 x0 x7).f3) ((rd_T27 x0 x7).f4) ((rd_T27 x0 x7).f5) ((rd_T27 x0 x7).f6) ((rd_T27 x0 x7).f7) ((rd_T27 x0 x7).f8) ((rd_T27 x0 x7).f9) ((rd_T27 x0 x7).f10) ((rd_T27 x0 x7).f11) ((rd_T27 x0 x7).f12) ((rd_T27 x0 x7).f13) ((rd_T27 x0 x7).f14) ((rd_T27 x1 x7).f0) ((rd_T27 x1 x7).f1.f0) ((rd_T27 x1 x7).f1.f1) ((rd_T27 x1 x7).f1.f2) ((rd_T27 x1 x7).f2.f0) ((rd_T27 x1 x7).f2.f1) ((rd_T27 x1 x7).f2.f2) ((rd_T27 x1 x7).f3) ((rd_T27 x1 x7).f4) ((rd_T27 x1 x7).f5) ((rd_T27 x1 x7).f6) ((rd_T27 x1 x7).f7) ((rd_T27 x1 x7).f8) ((rd_T27 x1 x7).f9) ((rd_T27 x1 x7).f10) ((rd_T27 x1 x7).f11) ((rd_T27 x1 x7).f12) ((rd_T27 x1 x7).f13) ((rd_T27 x1 x7).f14) x2).bind fun t135 => (if t135 = true then (runnelref18_SameList.l0 k x0 x1 x2 (wrap64 (x7 + 1))) else (some false))) else (none)) else (none)) else (some true)
def runnelref18_SameList.f (k : Nat) (l0 : List (S27)) (l1 : List (S27)) (a2 : Bool) : Option (Bool) := if (l0.length : Int) = (l1.length : Int) then (runnelref18_SameList.l0 k l0 l1 a2 0) else (some false)
theorem runnelref18_SameList.mono_l : ∀ k, (∀ y0 y1 y2 y3, LeO (runnelref18_SameList.l0 k y0 y1 y2 y3) (runnelref18_SameList.l0 (k + 1) y0 y1 y2 y3))
  | 0 => fun _ _ _ _ r h => by simp [runnelref18_SameList.l0] at h
  | k + 1 => by
    have ih0 := runnelref18_SameList.mono_l k
    · intro y0 y1 y2 y3
      unfold runnelref18_SameList.l0
      repeat' first
      | (with_reducible exact ih0 _ _ _ _)
      | (with_reducible exact LeO.refl _)
      | (with_reducible exact LeO.none _)
      | (with_reducible refine LeO.ite ?_ ?_)
      | (with_reducible refine LeO.bind ?_ (fun _ => ?_))
      | exact ih0 _ _ _ _
      | exact LeO.none _
      | refine LeO.ite ?_ ?_
      | refine LeO.bind ?_ (fun _ => ?_)
theorem runnelref18_SameList.mono : ∀ a0 a1 a2 k, LeO (runnelref18_SameList.f k a0 a1 a2) (runnelref18_SameList.f (k + 1) a0 a1 a2) := by
  intro a0 a1 a2 k
  have ih0 := runnelref18_SameList.mono_l k
  unfold runnelref18_SameList.f
  repeat' first
      | (with_reducible exact ih0 _ _ _ _)
      | (with_reducible exact LeO.refl _)
      | (with_reducible exact LeO.none _)
      | (with_reducible refine LeO.ite ?_ ?_)
      | (with_reducible refine LeO.bind ?_ (fun _ => ?_))
      | exact ih0 _ _ _ _
      | exact LeO.none _
      | refine LeO.ite ?_ ?_
      | refine LeO.bind ?_ (fun _ => ?_)
def runnelref18_SameList.T6 : Bool × List (List Nat × List Nat) := (true, [([], []), ([], []), ([0, 1], [0, 1]), ([2], [2]), ([], []), ([], []), ([4, 5], [4, 5]), ([6], [6]), ([], []), ([3, 7, 8], [3, 7, 8]), ([9], [9])])
def runnelref18_SameList.B6 : List Nat := [0, 0, 3, 7, 0, 0, 48, 112, 0, 511, 1023]
theorem runnelref18_SameList.tab6 : rtab .any (opsOf Try.f21 6) = runnelref18_SameList.T6 := by kernel_rfl
theorem runnelref18_SameList.bits6 : waitsOk runnelref18_SameList.T6.2 runnelref18_SameList.B6 = true := by kernel_rfl
set_option maxHeartbeats 8000000 in
set_option maxRecDepth 100000 in
theorem runnelref18_SameList.calls (k : Nat) (A0 : Option Addr) (c0 : Nat) (l0 : List (S27)) (A1 : Option Addr) (c1 : Nat) (l1 : List (S27)) (a2 : Bool) (r : Bool) (w : World) (hr0 : Kd.C k27 w A0 l0.length l0) (hc0 : l0.length ≤ c0) (hr1 : Kd.C k27 w A1 l1.length l1) (hc1 : l1.length ≤ c1) (h : runnelref18_SameList.f k l0 l1 a2 = some r) :
    Calls Try.prog 21 #[.slice A0 l0.length c0, .slice A1 l1.length c1, .bool a2] w fun e w' => e = .returned (.bool r) ∧ Below w.heap.size w w' := by
  have hu27 := Try.underlying27
  have HR0 := Aside0.mk hr0
  have HC0 := Aside0.mk hc0
  clear hr0 hc0
  have HR1 := Aside0.mk hr1
  have HC1 := Aside0.mk hc1
  clear hr1 hc1
  have HB := Aside0.mk (Below.refl w.heap.size w)
  have H : (if (l0.length : Int) = (l1.length : Int) then (runnelref18_SameList.l0 k l0 l1 a2 0) else (some false)) = some r := h
  clear h
  by_cases c4 : (l0.length : Int) = (l1.length : Int)
  · rw [if_pos c4] at H
    have c4b0 : ((l0.length : Int) == (l1.length : Int)) = true := beq_iff_eq.mpr c4
    have c4b1 : ((l0.length : Int) != (l1.length : Int)) = false := bne_eq_false_iff_eq.mpr c4
    have c4b2 : (l0.length == l1.length) = true := by first | simpa using c4 | (simp at c4 ⊢; omega)
    clear c4
    have H' := Aside0.mk H
    clear H
    go_enter Try.func21, Try.ntmps21
    go_wp2
    go_loopg [7] k (fun kq v7 w' => ∃ (x7_1 : Int), v7 = .int .i64 x7_1 ∧ Aside0 (runnelref18_SameList.l0 kq l0 l1 a2 x7_1 = some r) ∧ Aside0 (kq ≤ k) ∧ Aside0 (Below w.heap.size w w'))
    case atStart => exact ⟨(0), (by first | rfl | (simp; done) | (simp [*]; done)), H', ⟨Nat.le_refl _⟩, ⟨by repeat (first | (with_reducible first | exact HB.out | apply below_alloc | apply pw_below_drewN | apply below_drew1) | exact HB.out)⟩⟩
    case round =>
      clear H'
      try clear c1
      try clear c2
      try clear p2
      try clear c4
      try clear c4b0
      try clear c4b1
      try clear c4b2
      obtain ⟨x7_1, rfl, HA, HK1, HB⟩ := hrel
      cases gk with
      | zero => exact absurd HA.out (by simp [runnelref18_SameList.l0])
      | succ k1 =>
        have H := HA.out
        clear HA
        simp only [runnelref18_SameList.l0] at H
        by_cases c5 : x7_1 < (l0.length : Int)
        · rw [if_pos c5] at H
          have c5b0 : decide (x7_1 < (l0.length : Int)) = true := decide_eq_true c5
          clear c5
          by_cases c6 : 0 ≤ x7_1
          · rw [if_pos c6] at H
            have c6b0 : decide (0 ≤ x7_1) = true := decide_eq_true c6
            clear c6
            by_cases c7 : x7_1 < (l1.length : Int)
            · rw [if_pos c7] at H
              have c7b0 : decide (x7_1 < (l1.length : Int)) = true := decide_eq_true c7
              clear c7
              replace H := Option.bind_eq_some_iff.mp H
              obtain ⟨t135, A80, H⟩ := H
              replace H : (if t135 = true then (runnelref18_SameList.l0 k1 l0 l1 a2 (wrap64 (x7_1 + 1))) else (some false)) = some r := H
              have A8 := Aside0.mk A80
              clear A80
              by_cases c9 : t135 = true
              · subst c9
                have H1 : (runnelref18_SameList.l0 k1 l0 l1 a2 (wrap64 (x7_1 + 1))) = some r := by rw [if_pos rfl] at H; exact H
                clear H
                have H := H1
                clear H1
                have H' := Aside0.mk H
                clear H
                try go_wp2
                have n0_ := Aside0.mk (below_drew1 HB.out)
                clear HB
                have HB := n0_
                clear n0_
                have p133 : 0 ≤ (x7_1 : Int) := of_decide_eq_true (by first | (with_reducible assumption) | assumption)
                have q133 : x7_1 < (l0.length : Int) := of_decide_eq_true (by first | (with_reducible assumption) | assumption)
                obtain ⟨ad133, A133_13, c133_13, e133, hx133_0, hx133_1, hx133_2, hx133_3, hx133_4, hx133_5, hx133_6, hx133_7, hx133_8, hx133_9, hx133_10, hx133_11, hx133_12, hx133_13, hx133_14, hx133_15, hx133_16, hx133_17, hx133_18, hl133_13, hi133_13⟩ := at_T27 HR0.out x7_1 p133 q133
                have hw133_18 := hx133_18
                have hw133_17 := hx133_17
                have hw133_16 := hx133_16
                have hw133_15 := hx133_15
                have hw133_14 := hx133_14
                have hw133_13 := hx133_13
                have hw133_12 := hx133_12
                have hw133_11 := hx133_11
                have hw133_10 := hx133_10
                have hw133_9 := hx133_9
                have hw133_8 := hx133_8
                have hw133_7 := hx133_7
                have hw133_6 := hx133_6
                have hw133_5 := hx133_5
                have hw133_4 := hx133_4
                have hw133_3 := hx133_3
                have hw133_2 := hx133_2
                have hw133_1 := hx133_1
                have hw133_0 := hx133_0
                cases e133
                replace hx133_0 := (HB.out.cell (World.block_lt_of_cell? w _ hx133_0)).trans hx133_0
                replace hx133_1 := (HB.out.cell (World.block_lt_of_cell? w _ hx133_1)).trans hx133_1
                replace hx133_2 := (HB.out.cell (World.block_lt_of_cell? w _ hx133_2)).trans hx133_2
                replace hx133_3 := (HB.out.cell (World.block_lt_of_cell? w _ hx133_3)).trans hx133_3
                replace hx133_4 := (HB.out.cell (World.block_lt_of_cell? w _ hx133_4)).trans hx133_4
                replace hx133_5 := (HB.out.cell (World.block_lt_of_cell? w _ hx133_5)).trans hx133_5
                replace hx133_6 := (HB.out.cell (World.block_lt_of_cell? w _ hx133_6)).trans hx133_6
                replace hx133_7 := (HB.out.cell (World.block_lt_of_cell? w _ hx133_7)).trans hx133_7
                replace hx133_8 := (HB.out.cell (World.block_lt_of_cell? w _ hx133_8)).trans hx133_8
                replace hx133_9 := (HB.out.cell (World.block_lt_of_cell? w _ hx133_9)).trans hx133_9
                replace hx133_10 := (HB.out.cell (World.block_lt_of_cell? w _ hx133_10)).trans hx133_10
                replace hx133_11 := (HB.out.cell (World.block_lt_of_cell? w _ hx133_11)).trans hx133_11
                replace hx133_12 := (HB.out.cell (World.block_lt_of_cell? w _ hx133_12)).trans hx133_12
                replace hx133_13 := (HB.out.cell (World.block_lt_of_cell? w _ hx133_13)).trans hx133_13
                replace hx133_14 := (HB.out.cell (World.block_lt_of_cell? w _ hx133_14)).trans hx133_14
                replace hx133_15 := (HB.out.cell (World.block_lt_of_cell? w _ hx133_15)).trans hx133_15
                replace hx133_16 := (HB.out.cell (World.block_lt_of_cell? w _ hx133_16)).trans hx133_16
                replace hx133_17 := (HB.out.cell (World.block_lt_of_cell? w _ hx133_17)).trans hx133_17
                replace hx133_18 := (HB.out.cell (World.block_lt_of_cell? w _ hx133_18)).trans hx133_18
                have HR133_13 := Aside0.mk hi133_13
                have HC133_13 := Aside0.mk hl133_13
                clear hi133_13 hl133_13
                replace p133 := eq_true p133
                replace q133 := eq_true q133
                have p134 : 0 ≤ (x7_1 : Int) := of_decide_eq_true (by first | (with_reducible assumption) | assumption)
                have q134 : x7_1 < (l1.length : Int) := of_decide_eq_true (by first | (with_reducible assumption) | assumption)
                obtain ⟨ad134, A134_13, c134_13, e134, hx134_0, hx134_1, hx134_2, hx134_3, hx134_4, hx134_5, hx134_6, hx134_7, hx134_8, hx134_9, hx134_10, hx134_11, hx134_12, hx134_13, hx134_14, hx134_15, hx134_16, hx134_17, hx134_18, hl134_13, hi134_13⟩ := at_T27 HR1.out x7_1 p134 q134
                have hw134_18 := hx134_18
                have hw134_17 := hx134_17
                have hw134_16 := hx134_16
                have hw134_15 := hx134_15
                have hw134_14 := hx134_14
                have hw134_13 := hx134_13
                have hw134_12 := hx134_12
                have hw134_11 := hx134_11
                have hw134_10 := hx134_10
                have hw134_9 := hx134_9
                have hw134_8 := hx134_8
                have hw134_7 := hx134_7
                have hw134_6 := hx134_6
                have hw134_5 := hx134_5
                have hw134_4 := hx134_4
                have hw134_3 := hx134_3
                have hw134_2 := hx134_2
                have hw134_1 := hx134_1
                have hw134_0 := hx134_0
                cases e134
                replace hx134_0 := (HB.out.cell (World.block_lt_of_cell? w _ hx134_0)).trans hx134_0
                replace hx134_1 := (HB.out.cell (World.block_lt_of_cell? w _ hx134_1)).trans hx134_1
                replace hx134_2 := (HB.out.cell (World.block_lt_of_cell? w _ hx134_2)).trans hx134_2
                replace hx134_3 := (HB.out.cell (World.block_lt_of_cell? w _ hx134_3)).trans hx134_3
                replace hx134_4 := (HB.out.cell (World.block_lt_of_cell? w _ hx134_4)).trans hx134_4
                replace hx134_5 := (HB.out.cell (World.block_lt_of_cell? w _ hx134_5)).trans hx134_5
                replace hx134_6 := (HB.out.cell (World.block_lt_of_cell? w _ hx134_6)).trans hx134_6
                replace hx134_7 := (HB.out.cell (World.block_lt_of_cell? w _ hx134_7)).trans hx134_7
                replace hx134_8 := (HB.out.cell (World.block_lt_of_cell? w _ hx134_8)).trans hx134_8
                replace hx134_9 := (HB.out.cell (World.block_lt_of_cell? w _ hx134_9)).trans hx134_9
                replace hx134_10 := (HB.out.cell (World.block_lt_of_cell? w _ hx134_10)).trans hx134_10
                replace hx134_11 := (HB.out.cell (World.block_lt_of_cell? w _ hx134_11)).trans hx134_11
                replace hx134_12 := (HB.out.cell (World.block_lt_of_cell? w _ hx134_12)).trans hx134_12
                replace hx134_13 := (HB.out.cell (World.block_lt_of_cell? w _ hx134_13)).trans hx134_13
                replace hx134_14 := (HB.out.cell (World.block_lt_of_cell? w _ hx134_14)).trans hx134_14
                replace hx134_15 := (HB.out.cell (World.block_lt_of_cell? w _ hx134_15)).trans hx134_15
                replace hx134_16 := (HB.out.cell (World.block_lt_of_cell? w _ hx134_16)).trans hx134_16
                replace hx134_17 := (HB.out.cell (World.block_lt_of_cell? w _ hx134_17)).trans hx134_17
                replace hx134_18 := (HB.out.cell (World.block_lt_of_cell? w _ hx134_18)).trans hx134_18
                have HR134_13 := Aside0.mk hi134_13
                have HC134_13 := Aside0.mk hl134_13
                clear hi134_13 hl134_13
                replace p134 := eq_true p134
                replace q134 := eq_true q134
                refine start_ (n := 11) (S := fun w' => w'.cell? (ad133.add ((x7_1).toNat * 19)) = some (.int .i64 ((rd_T27 l0 x7_1).f0)) ∧ w'.cell? ⟨(ad133.add ((x7_1).toNat * 19)).block, (ad133.add ((x7_1).toNat * 19)).off + 1, none⟩ = some (.int .i64 ((rd_T27 l0 x7_1).f1.f0)) ∧ w'.cell? ⟨(ad133.add ((x7_1).toNat * 19)).block, (ad133.add ((x7_1).toNat * 19)).off + 2, none⟩ = some (.int .i64 ((rd_T27 l0 x7_1).f1.f1)) ∧ w'.cell? ⟨(ad133.add ((x7_1).toNat * 19)).block, (ad133.add ((x7_1).toNat * 19)).off + 3, none⟩ = some (.string ((rd_T27 l0 x7_1).f1.f2)) ∧ w'.cell? ⟨(ad133.add ((x7_1).toNat * 19)).block, (ad133.add ((x7_1).toNat * 19)).off + 4, none⟩ = some (.int .i64 ((rd_T27 l0 x7_1).f2.f0)) ∧ w'.cell? ⟨(ad133.add ((x7_1).toNat * 19)).block, (ad133.add ((x7_1).toNat * 19)).off + 5, none⟩ = some (.int .i64 ((rd_T27 l0 x7_1).f2.f1)) ∧ w'.cell? ⟨(ad133.add ((x7_1).toNat * 19)).block, (ad133.add ((x7_1).toNat * 19)).off + 6, none⟩ = some (.string ((rd_T27 l0 x7_1).f2.f2)) ∧ w'.cell? ⟨(ad133.add ((x7_1).toNat * 19)).block, (ad133.add ((x7_1).toNat * 19)).off + 7, none⟩ = some (.bool ((rd_T27 l0 x7_1).f3)) ∧ w'.cell? ⟨(ad133.add ((x7_1).toNat * 19)).block, (ad133.add ((x7_1).toNat * 19)).off + 8, none⟩ = some (.int .u8 ((rd_T27 l0 x7_1).f4)) ∧ w'.cell? ⟨(ad133.add ((x7_1).toNat * 19)).block, (ad133.add ((x7_1).toNat * 19)).off + 9, none⟩ = some (.string ((rd_T27 l0 x7_1).f5)) ∧ w'.cell? ⟨(ad133.add ((x7_1).toNat * 19)).block, (ad133.add ((x7_1).toNat * 19)).off + 10, none⟩ = some (.string ((rd_T27 l0 x7_1).f6)) ∧ w'.cell? ⟨(ad133.add ((x7_1).toNat * 19)).block, (ad133.add ((x7_1).toNat * 19)).off + 11, none⟩ = some (.string ((rd_T27 l0 x7_1).f7)) ∧ w'.cell? ⟨(ad133.add ((x7_1).toNat * 19)).block, (ad133.add ((x7_1).toNat * 19)).off + 12, none⟩ = some (.string ((rd_T27 l0 x7_1).f8)) ∧ w'.cell? ⟨(ad133.add ((x7_1).toNat * 19)).block, (ad133.add ((x7_1).toNat * 19)).off + 13, none⟩ = some (.slice A133_13 ((rd_T27 l0 x7_1).f9).length c133_13) ∧ w'.cell? ⟨(ad133.add ((x7_1).toNat * 19)).block, (ad133.add ((x7_1).toNat * 19)).off + 14, none⟩ = some (.int .i64 ((rd_T27 l0 x7_1).f10)) ∧ w'.cell? ⟨(ad133.add ((x7_1).toNat * 19)).block, (ad133.add ((x7_1).toNat * 19)).off + 15, none⟩ = some (.bool ((rd_T27 l0 x7_1).f11)) ∧ w'.cell? ⟨(ad133.add ((x7_1).toNat * 19)).block, (ad133.add ((x7_1).toNat * 19)).off + 16, none⟩ = some (.bool ((rd_T27 l0 x7_1).f12)) ∧ w'.cell? ⟨(ad133.add ((x7_1).toNat * 19)).block, (ad133.add ((x7_1).toNat * 19)).off + 17, none⟩ = some (.string ((rd_T27 l0 x7_1).f13)) ∧ w'.cell? ⟨(ad133.add ((x7_1).toNat * 19)).block, (ad133.add ((x7_1).toNat * 19)).off + 18, none⟩ = some (.string ((rd_T27 l0 x7_1).f14)) ∧ w'.cell? (ad134.add ((x7_1).toNat * 19)) = some (.int .i64 ((rd_T27 l1 x7_1).f0)) ∧ w'.cell? ⟨(ad134.add ((x7_1).toNat * 19)).block, (ad134.add ((x7_1).toNat * 19)).off + 1, none⟩ = some (.int .i64 ((rd_T27 l1 x7_1).f1.f0)) ∧ w'.cell? ⟨(ad134.add ((x7_1).toNat * 19)).block, (ad134.add ((x7_1).toNat * 19)).off + 2, none⟩ = some (.int .i64 ((rd_T27 l1 x7_1).f1.f1)) ∧ w'.cell? ⟨(ad134.add ((x7_1).toNat * 19)).block, (ad134.add ((x7_1).toNat * 19)).off + 3, none⟩ = some (.string ((rd_T27 l1 x7_1).f1.f2)) ∧ w'.cell? ⟨(ad134.add ((x7_1).toNat * 19)).block, (ad134.add ((x7_1).toNat * 19)).off + 4, none⟩ = some (.int .i64 ((rd_T27 l1 x7_1).f2.f0)) ∧ w'.cell? ⟨(ad134.add ((x7_1).toNat * 19)).block, (ad134.add ((x7_1).toNat * 19)).off + 5, none⟩ = some (.int .i64 ((rd_T27 l1 x7_1).f2.f1)) ∧ w'.cell? ⟨(ad134.add ((x7_1).toNat * 19)).block, (ad134.add ((x7_1).toNat * 19)).off + 6, none⟩ = some (.string ((rd_T27 l1 x7_1).f2.f2)) ∧ w'.cell? ⟨(ad134.add ((x7_1).toNat * 19)).block, (ad134.add ((x7_1).toNat * 19)).off + 7, none⟩ = some (.bool ((rd_T27 l1 x7_1).f3)) ∧ w'.cell? ⟨(ad134.add ((x7_1).toNat * 19)).block, (ad134.add ((x7_1).toNat * 19)).off + 8, none⟩ = some (.int .u8 ((rd_T27 l1 x7_1).f4)) ∧ w'.cell? ⟨(ad134.add ((x7_1).toNat * 19)).block, (ad134.add ((x7_1).toNat * 19)).off + 9, none⟩ = some (.string ((rd_T27 l1 x7_1).f5)) ∧ w'.cell? ⟨(ad134.add ((x7_1).toNat * 19)).block, (ad134.add ((x7_1).toNat * 19)).off + 10, none⟩ = some (.string ((rd_T27 l1 x7_1).f6)) ∧ w'.cell? ⟨(ad134.add ((x7_1).toNat * 19)).block, (ad134.add ((x7_1).toNat * 19)).off + 11, none⟩ = some (.string ((rd_T27 l1 x7_1).f7)) ∧ w'.cell? ⟨(ad134.add ((x7_1).toNat * 19)).block, (ad134.add ((x7_1).toNat * 19)).off + 12, none⟩ = some (.string ((rd_T27 l1 x7_1).f8)) ∧ w'.cell? ⟨(ad134.add ((x7_1).toNat * 19)).block, (ad134.add ((x7_1).toNat * 19)).off + 13, none⟩ = some (.slice A134_13 ((rd_T27 l1 x7_1).f9).length c134_13) ∧ w'.cell? ⟨(ad134.add ((x7_1).toNat * 19)).block, (ad134.add ((x7_1).toNat * 19)).off + 14, none⟩ = some (.int .i64 ((rd_T27 l1 x7_1).f10)) ∧ w'.cell? ⟨(ad134.add ((x7_1).toNat * 19)).block, (ad134.add ((x7_1).toNat * 19)).off + 15, none⟩ = some (.bool ((rd_T27 l1 x7_1).f11)) ∧ w'.cell? ⟨(ad134.add ((x7_1).toNat * 19)).block, (ad134.add ((x7_1).toNat * 19)).off + 16, none⟩ = some (.bool ((rd_T27 l1 x7_1).f12)) ∧ w'.cell? ⟨(ad134.add ((x7_1).toNat * 19)).block, (ad134.add ((x7_1).toNat * 19)).off + 17, none⟩ = some (.string ((rd_T27 l1 x7_1).f13)) ∧ w'.cell? ⟨(ad134.add ((x7_1).toNat * 19)).block, (ad134.add ((x7_1).toNat * 19)).off + 18, none⟩ = some (.string ((rd_T27 l1 x7_1).f14))) (ds := []) #[false, false, false, false, false, false, false, false, false, false, false] (by kernel_rfl) rfl rfl ⟨((HB.out.cell (World.block_lt_of_cell? w _ hw133_0)).trans hw133_0), ((HB.out.cell (World.block_lt_of_cell? w _ hw133_1)).trans hw133_1), ((HB.out.cell (World.block_lt_of_cell? w _ hw133_2)).trans hw133_2), ((HB.out.cell (World.block_lt_of_cell? w _ hw133_3)).trans hw133_3), ((HB.out.cell (World.block_lt_of_cell? w _ hw133_4)).trans hw133_4), ((HB.out.cell (World.block_lt_of_cell? w _ hw133_5)).trans hw133_5), ((HB.out.cell (World.block_lt_of_cell? w _ hw133_6)).trans hw133_6), ((HB.out.cell (World.block_lt_of_cell? w _ hw133_7)).trans hw133_7), ((HB.out.cell (World.block_lt_of_cell? w _ hw133_8)).trans hw133_8), ((HB.out.cell (World.block_lt_of_cell? w _ hw133_9)).trans hw133_9), ((HB.out.cell (World.block_lt_of_cell? w _ hw133_10)).trans hw133_10), ((HB.out.cell (World.block_lt_of_cell? w _ hw133_11)).trans hw133_11), ((HB.out.cell (World.block_lt_of_cell? w _ hw133_12)).trans hw133_12), ((HB.out.cell (World.block_lt_of_cell? w _ hw133_13)).trans hw133_13), ((HB.out.cell (World.block_lt_of_cell? w _ hw133_14)).trans hw133_14), ((HB.out.cell (World.block_lt_of_cell? w _ hw133_15)).trans hw133_15), ((HB.out.cell (World.block_lt_of_cell? w _ hw133_16)).trans hw133_16), ((HB.out.cell (World.block_lt_of_cell? w _ hw133_17)).trans hw133_17), ((HB.out.cell (World.block_lt_of_cell? w _ hw133_18)).trans hw133_18), ((HB.out.cell (World.block_lt_of_cell? w _ hw134_0)).trans hw134_0), ((HB.out.cell (World.block_lt_of_cell? w _ hw134_1)).trans hw134_1), ((HB.out.cell (World.block_lt_of_cell? w _ hw134_2)).trans hw134_2), ((HB.out.cell (World.block_lt_of_cell? w _ hw134_3)).trans hw134_3), ((HB.out.cell (World.block_lt_of_cell? w _ hw134_4)).trans hw134_4), ((HB.out.cell (World.block_lt_of_cell? w _ hw134_5)).trans hw134_5), ((HB.out.cell (World.block_lt_of_cell? w _ hw134_6)).trans hw134_6), ((HB.out.cell (World.block_lt_of_cell? w _ hw134_7)).trans hw134_7), ((HB.out.cell (World.block_lt_of_cell? w _ hw134_8)).trans hw134_8), ((HB.out.cell (World.block_lt_of_cell? w _ hw134_9)).trans hw134_9), ((HB.out.cell (World.block_lt_of_cell? w _ hw134_10)).trans hw134_10), ((HB.out.cell (World.block_lt_of_cell? w _ hw134_11)).trans hw134_11), ((HB.out.cell (World.block_lt_of_cell? w _ hw134_12)).trans hw134_12), ((HB.out.cell (World.block_lt_of_cell? w _ hw134_13)).trans hw134_13), ((HB.out.cell (World.block_lt_of_cell? w _ hw134_14)).trans hw134_14), ((HB.out.cell (World.block_lt_of_cell? w _ hw134_15)).trans hw134_15), ((HB.out.cell (World.block_lt_of_cell? w _ hw134_16)).trans hw134_16), ((HB.out.cell (World.block_lt_of_cell? w _ hw134_17)).trans hw134_17), ((HB.out.cell (World.block_lt_of_cell? w _ hw134_18)).trans hw134_18)⟩ (fun hHeld => ?_); refine with_tabW runnelref18_SameList.tab6 runnelref18_SameList.bits6 (fun HT_ HW_ => ?_)
                generalize wr.drew = w10 at HB HR133_13 HR134_13 hx133_0 hx133_1 hx133_10 hx133_11 hx133_12 hx133_13 hx133_14 hx133_15 hx133_16 hx133_17 hx133_18 hx133_2 hx133_3 hx133_4 hx133_5 hx133_6 hx133_7 hx133_8 hx133_9 hx134_0 hx134_1 hx134_10 hx134_11 hx134_12 hx134_13 hx134_14 hx134_15 hx134_16 hx134_17 hx134_18 hx134_2 hx134_3 hx134_4 hx134_5 hx134_6 hx134_7 hx134_8 hx134_9 hHeld ⊢
                refine pure_ (i := 0) (N := some 19) (v := ?_) (a' := ?_) #[true, false, false, false, false, false, false, false, false, false, false] rfl rfl (any_of HT_.out (by kernel_rfl)) (fun _ _ _ h => h) (Or.inl ⟨by rfl, ?_⟩) ?_ ?_
                rotate_left
                · intro w'
                  go_simp
                  with_reducible rfl
                rotate_left
                · simp only [Act.put, List.setIfInBounds_toArray, List.set_cons_zero, List.set_cons_succ, i64_w, i32_w]
                  rfl
                refine pure_ (i := 1) (N := some 20) (v := ?_) (a' := ?_) #[true, true, false, false, false, false, false, false, false, false, false] rfl rfl (any_of HT_.out (by kernel_rfl)) (fun _ _ _ h => h) (Or.inl ⟨by rfl, ?_⟩) ?_ ?_
                rotate_left
                · intro w'
                  go_simp
                  with_reducible rfl
                rotate_left
                · simp only [Act.put, List.setIfInBounds_toArray, List.set_cons_zero, List.set_cons_succ, i64_w, i32_w]
                  rfl
                refine pure_ (i := 2) (N := some 21) (v := ?_) (a' := ?_) #[true, true, true, false, false, false, false, false, false, false, false] rfl rfl (any_of HT_.out (by kernel_rfl)) (fun _ _ _ h => h) (Or.inl ⟨by rfl, ?_⟩) ?_ ?_
                rotate_left
                · intro w'
                  go_simp
                  with_reducible rfl
                rotate_left
                · simp only [Act.put, List.setIfInBounds_toArray, List.set_cons_zero, List.set_cons_succ, i64_w, i32_w]
                  rfl
                refine pure_ (i := 4) (N := some 23) (v := ?_) (a' := ?_) #[true, true, true, false, true, false, false, false, false, false, false] rfl rfl (any_of HT_.out (by kernel_rfl)) (fun _ _ _ h => h) (Or.inl ⟨by rfl, ?_⟩) ?_ ?_
                rotate_left
                · intro w'
                  go_simp
                  with_reducible rfl
                rotate_left
                · simp only [Act.put, List.setIfInBounds_toArray, List.set_cons_zero, List.set_cons_succ, i64_w, i32_w]
                  rfl
                refine pure_ (i := 5) (N := some 24) (v := ?_) (a' := ?_) #[true, true, true, false, true, true, false, false, false, false, false] rfl rfl (any_of HT_.out (by kernel_rfl)) (fun _ _ _ h => h) (Or.inl ⟨by rfl, ?_⟩) ?_ ?_
                rotate_left
                · intro w'
                  go_simp
                  with_reducible rfl
                rotate_left
                · simp only [Act.put, List.setIfInBounds_toArray, List.set_cons_zero, List.set_cons_succ, i64_w, i32_w]
                  rfl
                refine pure_ (i := 6) (N := some 25) (v := ?_) (a' := ?_) #[true, true, true, false, true, true, true, false, false, false, false] rfl rfl (any_of HT_.out (by kernel_rfl)) (fun _ _ _ h => h) (Or.inl ⟨by rfl, ?_⟩) ?_ ?_
                rotate_left
                · intro w'
                  go_simp
                  with_reducible rfl
                rotate_left
                · simp only [Act.put, List.setIfInBounds_toArray, List.set_cons_zero, List.set_cons_succ, i64_w, i32_w]
                  rfl
                refine pure_ (i := 8) (N := some 27) (v := ?_) (a' := ?_) #[true, true, true, false, true, true, true, false, true, false, false] rfl rfl (any_of HT_.out (by kernel_rfl)) (fun _ _ _ h => h) (Or.inl ⟨by rfl, ?_⟩) ?_ ?_
                rotate_left
                · intro w'
                  go_simp
                  with_reducible rfl
                rotate_left
                · simp only [Act.put, List.setIfInBounds_toArray, List.set_cons_zero, List.set_cons_succ, i64_w, i32_w]
                  rfl
                refine take_ (i := 3) (N := some 22) (v := ?_) (a' := ?_) #[true, true, true, true, true, true, true, false, true, false, false] rfl rfl (take_ofW HT_.out HW_.out (by kernel_rfl)) (fun _ _ _ h => h) (Or.inl ⟨by rfl, ?_⟩) hHeld ?_ ?_
                rotate_left
                · rintro w' ⟨s0, s1, s2, s3, s4, s5, s6, s7, s8, s9, s10, s11, s12, s13, s14, s15, s16, s17, s18, s19, s20, s21, s22, s23, s24, s25, s26, s27, s28, s29, s30, s31, s32, s33, s34, s35, s36, s37⟩
                  refine run_load_op 27 (.tmp 21) ?_ (ad133.add ((x7_1).toNat * 19)) ?_ [.int .i64 ((rd_T27 l0 x7_1).f0), .int .i64 ((rd_T27 l0 x7_1).f1.f0), .int .i64 ((rd_T27 l0 x7_1).f1.f1), .string ((rd_T27 l0 x7_1).f1.f2), .int .i64 ((rd_T27 l0 x7_1).f2.f0), .int .i64 ((rd_T27 l0 x7_1).f2.f1), .string ((rd_T27 l0 x7_1).f2.f2), .bool ((rd_T27 l0 x7_1).f3), .int .u8 ((rd_T27 l0 x7_1).f4), .string ((rd_T27 l0 x7_1).f5), .string ((rd_T27 l0 x7_1).f6), .string ((rd_T27 l0 x7_1).f7), .string ((rd_T27 l0 x7_1).f8), .slice A133_13 ((rd_T27 l0 x7_1).f9).length c133_13, .int .i64 ((rd_T27 l0 x7_1).f10), .bool ((rd_T27 l0 x7_1).f11), .bool ((rd_T27 l0 x7_1).f12), .string ((rd_T27 l0 x7_1).f13), .string ((rd_T27 l0 x7_1).f14)] _ (cells_all ⟨s0, s1, s2, s3, s4, s5, s6, s7, s8, s9, s10, s11, s12, s13, s14, s15, s16, s17, s18, trivial⟩) Try.underlying27 rfl (by kernel_rfl) <;> rfl
                rotate_left
                · simp only [Act.put, List.setIfInBounds_toArray, List.set_cons_zero, List.set_cons_succ, i64_w, i32_w]
                  rfl
                refine take_ (i := 7) (N := some 26) (v := ?_) (a' := ?_) #[true, true, true, true, true, true, true, true, true, false, false] rfl rfl (take_ofW HT_.out HW_.out (by kernel_rfl)) (fun _ _ _ h => h) (Or.inl ⟨by rfl, ?_⟩) hHeld ?_ ?_
                rotate_left
                · rintro w' ⟨s0, s1, s2, s3, s4, s5, s6, s7, s8, s9, s10, s11, s12, s13, s14, s15, s16, s17, s18, s19, s20, s21, s22, s23, s24, s25, s26, s27, s28, s29, s30, s31, s32, s33, s34, s35, s36, s37⟩
                  refine run_load_op 27 (.tmp 25) ?_ (ad134.add ((x7_1).toNat * 19)) ?_ [.int .i64 ((rd_T27 l1 x7_1).f0), .int .i64 ((rd_T27 l1 x7_1).f1.f0), .int .i64 ((rd_T27 l1 x7_1).f1.f1), .string ((rd_T27 l1 x7_1).f1.f2), .int .i64 ((rd_T27 l1 x7_1).f2.f0), .int .i64 ((rd_T27 l1 x7_1).f2.f1), .string ((rd_T27 l1 x7_1).f2.f2), .bool ((rd_T27 l1 x7_1).f3), .int .u8 ((rd_T27 l1 x7_1).f4), .string ((rd_T27 l1 x7_1).f5), .string ((rd_T27 l1 x7_1).f6), .string ((rd_T27 l1 x7_1).f7), .string ((rd_T27 l1 x7_1).f8), .slice A134_13 ((rd_T27 l1 x7_1).f9).length c134_13, .int .i64 ((rd_T27 l1 x7_1).f10), .bool ((rd_T27 l1 x7_1).f11), .bool ((rd_T27 l1 x7_1).f12), .string ((rd_T27 l1 x7_1).f13), .string ((rd_T27 l1 x7_1).f14)] _ (cells_all ⟨s19, s20, s21, s22, s23, s24, s25, s26, s27, s28, s29, s30, s31, s32, s33, s34, s35, s36, s37, trivial⟩) Try.underlying27 rfl (by kernel_rfl) <;> rfl
                rotate_left
                · simp only [Act.put, List.setIfInBounds_toArray, List.set_cons_zero, List.set_cons_succ, i64_w, i32_w]
                  rfl
                refine one_ (i := 9) (N := some 28) #[true, true, true, true, true, true, true, true, true, true, false] rfl rfl (one_of HT_.out (by kernel_rfl)) (by decide) (fun K hK => ?_)
                refine goes_ Try.func57 (by kernel_rfl) rfl #[.agg #[.int .i64 ((rd_T27 l0 x7_1).f0), .int .i64 ((rd_T27 l0 x7_1).f1.f0), .int .i64 ((rd_T27 l0 x7_1).f1.f1), .string ((rd_T27 l0 x7_1).f1.f2), .int .i64 ((rd_T27 l0 x7_1).f2.f0), .int .i64 ((rd_T27 l0 x7_1).f2.f1), .string ((rd_T27 l0 x7_1).f2.f2), .bool ((rd_T27 l0 x7_1).f3), .int .u8 ((rd_T27 l0 x7_1).f4), .string ((rd_T27 l0 x7_1).f5), .string ((rd_T27 l0 x7_1).f6), .string ((rd_T27 l0 x7_1).f7), .string ((rd_T27 l0 x7_1).f8), .slice A133_13 ((rd_T27 l0 x7_1).f9).length c133_13, .int .i64 ((rd_T27 l0 x7_1).f10), .bool ((rd_T27 l0 x7_1).f11), .bool ((rd_T27 l0 x7_1).f12), .string ((rd_T27 l0 x7_1).f13), .string ((rd_T27 l0 x7_1).f14)], .agg #[.int .i64 ((rd_T27 l1 x7_1).f0), .int .i64 ((rd_T27 l1 x7_1).f1.f0), .int .i64 ((rd_T27 l1 x7_1).f1.f1), .string ((rd_T27 l1 x7_1).f1.f2), .int .i64 ((rd_T27 l1 x7_1).f2.f0), .int .i64 ((rd_T27 l1 x7_1).f2.f1), .string ((rd_T27 l1 x7_1).f2.f2), .bool ((rd_T27 l1 x7_1).f3), .int .u8 ((rd_T27 l1 x7_1).f4), .string ((rd_T27 l1 x7_1).f5), .string ((rd_T27 l1 x7_1).f6), .string ((rd_T27 l1 x7_1).f7), .string ((rd_T27 l1 x7_1).f8), .slice A134_13 ((rd_T27 l1 x7_1).f9).length c134_13, .int .i64 ((rd_T27 l1 x7_1).f10), .bool ((rd_T27 l1 x7_1).f11), .bool ((rd_T27 l1 x7_1).f12), .string ((rd_T27 l1 x7_1).f13), .string ((rd_T27 l1 x7_1).f14)], .bool a2] (by rfl) rfl rfl (by (try simp only [List.map_toArray, List.map_cons, List.map_nil]); first | done | rfl | (simp only [List.length_drop, List.length_take]; rfl)) ?_
                with_reducible refine (runnelref18_Same.calls ((rd_T27 l0 x7_1).f0) ((rd_T27 l0 x7_1).f1.f0) ((rd_T27 l0 x7_1).f1.f1) ((rd_T27 l0 x7_1).f1.f2) ((rd_T27 l0 x7_1).f2.f0) ((rd_T27 l0 x7_1).f2.f1) ((rd_T27 l0 x7_1).f2.f2) ((rd_T27 l0 x7_1).f3) ((rd_T27 l0 x7_1).f4) ((rd_T27 l0 x7_1).f5) ((rd_T27 l0 x7_1).f6) ((rd_T27 l0 x7_1).f7) ((rd_T27 l0 x7_1).f8) _ _ ((rd_T27 l0 x7_1).f9) ((rd_T27 l0 x7_1).f10) ((rd_T27 l0 x7_1).f11) ((rd_T27 l0 x7_1).f12) ((rd_T27 l0 x7_1).f13) ((rd_T27 l0 x7_1).f14) ((rd_T27 l1 x7_1).f0) ((rd_T27 l1 x7_1).f1.f0) ((rd_T27 l1 x7_1).f1.f1) ((rd_T27 l1 x7_1).f1.f2) ((rd_T27 l1 x7_1).f2.f0) ((rd_T27 l1 x7_1).f2.f1) ((rd_T27 l1 x7_1).f2.f2) ((rd_T27 l1 x7_1).f3) ((rd_T27 l1 x7_1).f4) ((rd_T27 l1 x7_1).f5) ((rd_T27 l1 x7_1).f6) ((rd_T27 l1 x7_1).f7) ((rd_T27 l1 x7_1).f8) _ _ ((rd_T27 l1 x7_1).f9) ((rd_T27 l1 x7_1).f10) ((rd_T27 l1 x7_1).f11) ((rd_T27 l1 x7_1).f12) ((rd_T27 l1 x7_1).f13) ((rd_T27 l1 x7_1).f14) a2 true _ ?side1 ?side2 ?side3 ?side4 A8.out).mono ?_
                (case side1 => repeat (first | exact (Kd.C_below HR133_13.out HB.out) | (with_reducible refine Kd.C_alloc ?_ _) | (with_reducible refine Kd.C_drewN ?_ _) | (with_reducible refine Kd.C_drew ?_)))
                (case side2 => exact HC133_13.out)
                (case side3 => repeat (first | exact (Kd.C_below HR134_13.out HB.out) | (with_reducible refine Kd.C_alloc ?_ _) | (with_reducible refine Kd.C_drewN ?_ _) | (with_reducible refine Kd.C_drew ?_)))
                (case side4 => exact HC134_13.out)
                rintro e w11 ⟨rfl, hb⟩
                refine ⟨_, rfl, ?_⟩
                have n0_ := Aside0.mk (below_step (by repeat (first | (with_reducible first | exact HB.out | apply below_alloc | apply pw_below_drewN | apply below_drew1) | exact HB.out)) hb)
                clear HB
                have HB := n0_
                clear n0_
                (try clear hb)
                (try clear hb2)
                (try clear hk)
                (try clear hi)
                refine hK.out _ _ ⟨((HB.out.cell (World.block_lt_of_cell? w _ hw133_0)).trans hw133_0), ((HB.out.cell (World.block_lt_of_cell? w _ hw133_1)).trans hw133_1), ((HB.out.cell (World.block_lt_of_cell? w _ hw133_2)).trans hw133_2), ((HB.out.cell (World.block_lt_of_cell? w _ hw133_3)).trans hw133_3), ((HB.out.cell (World.block_lt_of_cell? w _ hw133_4)).trans hw133_4), ((HB.out.cell (World.block_lt_of_cell? w _ hw133_5)).trans hw133_5), ((HB.out.cell (World.block_lt_of_cell? w _ hw133_6)).trans hw133_6), ((HB.out.cell (World.block_lt_of_cell? w _ hw133_7)).trans hw133_7), ((HB.out.cell (World.block_lt_of_cell? w _ hw133_8)).trans hw133_8), ((HB.out.cell (World.block_lt_of_cell? w _ hw133_9)).trans hw133_9), ((HB.out.cell (World.block_lt_of_cell? w _ hw133_10)).trans hw133_10), ((HB.out.cell (World.block_lt_of_cell? w _ hw133_11)).trans hw133_11), ((HB.out.cell (World.block_lt_of_cell? w _ hw133_12)).trans hw133_12), ((HB.out.cell (World.block_lt_of_cell? w _ hw133_13)).trans hw133_13), ((HB.out.cell (World.block_lt_of_cell? w _ hw133_14)).trans hw133_14), ((HB.out.cell (World.block_lt_of_cell? w _ hw133_15)).trans hw133_15), ((HB.out.cell (World.block_lt_of_cell? w _ hw133_16)).trans hw133_16), ((HB.out.cell (World.block_lt_of_cell? w _ hw133_17)).trans hw133_17), ((HB.out.cell (World.block_lt_of_cell? w _ hw133_18)).trans hw133_18), ((HB.out.cell (World.block_lt_of_cell? w _ hw134_0)).trans hw134_0), ((HB.out.cell (World.block_lt_of_cell? w _ hw134_1)).trans hw134_1), ((HB.out.cell (World.block_lt_of_cell? w _ hw134_2)).trans hw134_2), ((HB.out.cell (World.block_lt_of_cell? w _ hw134_3)).trans hw134_3), ((HB.out.cell (World.block_lt_of_cell? w _ hw134_4)).trans hw134_4), ((HB.out.cell (World.block_lt_of_cell? w _ hw134_5)).trans hw134_5), ((HB.out.cell (World.block_lt_of_cell? w _ hw134_6)).trans hw134_6), ((HB.out.cell (World.block_lt_of_cell? w _ hw134_7)).trans hw134_7), ((HB.out.cell (World.block_lt_of_cell? w _ hw134_8)).trans hw134_8), ((HB.out.cell (World.block_lt_of_cell? w _ hw134_9)).trans hw134_9), ((HB.out.cell (World.block_lt_of_cell? w _ hw134_10)).trans hw134_10), ((HB.out.cell (World.block_lt_of_cell? w _ hw134_11)).trans hw134_11), ((HB.out.cell (World.block_lt_of_cell? w _ hw134_12)).trans hw134_12), ((HB.out.cell (World.block_lt_of_cell? w _ hw134_13)).trans hw134_13), ((HB.out.cell (World.block_lt_of_cell? w _ hw134_14)).trans hw134_14), ((HB.out.cell (World.block_lt_of_cell? w _ hw134_15)).trans hw134_15), ((HB.out.cell (World.block_lt_of_cell? w _ hw134_16)).trans hw134_16), ((HB.out.cell (World.block_lt_of_cell? w _ hw134_17)).trans hw134_17), ((HB.out.cell (World.block_lt_of_cell? w _ hw134_18)).trans hw134_18)⟩ (fun hHeld => ?_)
                clear hK K
                refine norm_ (a' := ?_) ?_ ?_
                rotate_left
                · show Act.put _ (some 28) _ = _
                  simp only [Act.put, List.setIfInBounds_toArray, List.set_cons_zero, List.set_cons_succ, i64_w, i32_w]
                  rfl
                refine pure_ (i := 10) (N := some 29) (v := ?_) (a' := ?_) #[true, true, true, true, true, true, true, true, true, true, true] rfl rfl (any_of HT_.out (by kernel_rfl)) (fun _ _ _ h => h) (Or.inl ⟨by rfl, ?_⟩) ?_ ?_
                rotate_left
                · intro w'
                  go_simp
                  with_reducible rfl
                rotate_left
                · simp only [Act.put, List.setIfInBounds_toArray, List.set_cons_zero, List.set_cons_succ, i64_w, i32_w]
                  rfl
                refine done_ (done_of HT_.out (by kernel_rfl)) ?_
                try go_wp2
                go_roundg k1
                case measure => have := HK1.out; omega
                case rel => exact ⟨(wrap64 (x7_1 + 1)), (by first | rfl | (simp; done) | (simp [*]; done)), H', ⟨by have := HK1.out; omega⟩, ⟨by repeat (first | (with_reducible first | exact HB.out | apply below_alloc | apply pw_below_drewN | apply below_drew1) | exact HB.out)⟩⟩
              · replace c9 := Bool.eq_false_iff.mpr c9
                subst c9
                have H1 : (some false) = some r := by rw [if_neg (show ¬ (false = true) by decide)] at H; exact H
                clear H
                have H := H1
                clear H1
                obtain rfl := Option.some.inj H
                try go_wp2
                have n0_ := Aside0.mk (below_drew1 HB.out)
                clear HB
                have HB := n0_
                clear n0_
                have p133 : 0 ≤ (x7_1 : Int) := of_decide_eq_true (by first | (with_reducible assumption) | assumption)
                have q133 : x7_1 < (l0.length : Int) := of_decide_eq_true (by first | (with_reducible assumption) | assumption)
                obtain ⟨ad133, A133_13, c133_13, e133, hx133_0, hx133_1, hx133_2, hx133_3, hx133_4, hx133_5, hx133_6, hx133_7, hx133_8, hx133_9, hx133_10, hx133_11, hx133_12, hx133_13, hx133_14, hx133_15, hx133_16, hx133_17, hx133_18, hl133_13, hi133_13⟩ := at_T27 HR0.out x7_1 p133 q133
                have hw133_18 := hx133_18
                have hw133_17 := hx133_17
                have hw133_16 := hx133_16
                have hw133_15 := hx133_15
                have hw133_14 := hx133_14
                have hw133_13 := hx133_13
                have hw133_12 := hx133_12
                have hw133_11 := hx133_11
                have hw133_10 := hx133_10
                have hw133_9 := hx133_9
                have hw133_8 := hx133_8
                have hw133_7 := hx133_7
                have hw133_6 := hx133_6
                have hw133_5 := hx133_5
                have hw133_4 := hx133_4
                have hw133_3 := hx133_3
                have hw133_2 := hx133_2
                have hw133_1 := hx133_1
                have hw133_0 := hx133_0
                cases e133
                replace hx133_0 := (HB.out.cell (World.block_lt_of_cell? w _ hx133_0)).trans hx133_0
                replace hx133_1 := (HB.out.cell (World.block_lt_of_cell? w _ hx133_1)).trans hx133_1
                replace hx133_2 := (HB.out.cell (World.block_lt_of_cell? w _ hx133_2)).trans hx133_2
                replace hx133_3 := (HB.out.cell (World.block_lt_of_cell? w _ hx133_3)).trans hx133_3
                replace hx133_4 := (HB.out.cell (World.block_lt_of_cell? w _ hx133_4)).trans hx133_4
                replace hx133_5 := (HB.out.cell (World.block_lt_of_cell? w _ hx133_5)).trans hx133_5
                replace hx133_6 := (HB.out.cell (World.block_lt_of_cell? w _ hx133_6)).trans hx133_6
                replace hx133_7 := (HB.out.cell (World.block_lt_of_cell? w _ hx133_7)).trans hx133_7
                replace hx133_8 := (HB.out.cell (World.block_lt_of_cell? w _ hx133_8)).trans hx133_8
                replace hx133_9 := (HB.out.cell (World.block_lt_of_cell? w _ hx133_9)).trans hx133_9
                replace hx133_10 := (HB.out.cell (World.block_lt_of_cell? w _ hx133_10)).trans hx133_10
                replace hx133_11 := (HB.out.cell (World.block_lt_of_cell? w _ hx133_11)).trans hx133_11
                replace hx133_12 := (HB.out.cell (World.block_lt_of_cell? w _ hx133_12)).trans hx133_12
                replace hx133_13 := (HB.out.cell (World.block_lt_of_cell? w _ hx133_13)).trans hx133_13
                replace hx133_14 := (HB.out.cell (World.block_lt_of_cell? w _ hx133_14)).trans hx133_14
                replace hx133_15 := (HB.out.cell (World.block_lt_of_cell? w _ hx133_15)).trans hx133_15
                replace hx133_16 := (HB.out.cell (World.block_lt_of_cell? w _ hx133_16)).trans hx133_16
                replace hx133_17 := (HB.out.cell (World.block_lt_of_cell? w _ hx133_17)).trans hx133_17
                replace hx133_18 := (HB.out.cell (World.block_lt_of_cell? w _ hx133_18)).trans hx133_18
                have HR133_13 := Aside0.mk hi133_13
                have HC133_13 := Aside0.mk hl133_13
                clear hi133_13 hl133_13
                replace p133 := eq_true p133
                replace q133 := eq_true q133
                have p134 : 0 ≤ (x7_1 : Int) := of_decide_eq_true (by first | (with_reducible assumption) | assumption)
                have q134 : x7_1 < (l1.length : Int) := of_decide_eq_true (by first | (with_reducible assumption) | assumption)
                obtain ⟨ad134, A134_13, c134_13, e134, hx134_0, hx134_1, hx134_2, hx134_3, hx134_4, hx134_5, hx134_6, hx134_7, hx134_8, hx134_9, hx134_10, hx134_11, hx134_12, hx134_13, hx134_14, hx134_15, hx134_16, hx134_17, hx134_18, hl134_13, hi134_13⟩ := at_T27 HR1.out x7_1 p134 q134
                have hw134_18 := hx134_18
                have hw134_17 := hx134_17
                have hw134_16 := hx134_16
                have hw134_15 := hx134_15
                have hw134_14 := hx134_14
                have hw134_13 := hx134_13
                have hw134_12 := hx134_12
                have hw134_11 := hx134_11
                have hw134_10 := hx134_10
                have hw134_9 := hx134_9
                have hw134_8 := hx134_8
                have hw134_7 := hx134_7
                have hw134_6 := hx134_6
                have hw134_5 := hx134_5
                have hw134_4 := hx134_4
                have hw134_3 := hx134_3
                have hw134_2 := hx134_2
                have hw134_1 := hx134_1
                have hw134_0 := hx134_0
                cases e134
                replace hx134_0 := (HB.out.cell (World.block_lt_of_cell? w _ hx134_0)).trans hx134_0
                replace hx134_1 := (HB.out.cell (World.block_lt_of_cell? w _ hx134_1)).trans hx134_1
                replace hx134_2 := (HB.out.cell (World.block_lt_of_cell? w _ hx134_2)).trans hx134_2
                replace hx134_3 := (HB.out.cell (World.block_lt_of_cell? w _ hx134_3)).trans hx134_3
                replace hx134_4 := (HB.out.cell (World.block_lt_of_cell? w _ hx134_4)).trans hx134_4
                replace hx134_5 := (HB.out.cell (World.block_lt_of_cell? w _ hx134_5)).trans hx134_5
                replace hx134_6 := (HB.out.cell (World.block_lt_of_cell? w _ hx134_6)).trans hx134_6
                replace hx134_7 := (HB.out.cell (World.block_lt_of_cell? w _ hx134_7)).trans hx134_7
                replace hx134_8 := (HB.out.cell (World.block_lt_of_cell? w _ hx134_8)).trans hx134_8
                replace hx134_9 := (HB.out.cell (World.block_lt_of_cell? w _ hx134_9)).trans hx134_9
                replace hx134_10 := (HB.out.cell (World.block_lt_of_cell? w _ hx134_10)).trans hx134_10
                replace hx134_11 := (HB.out.cell (World.block_lt_of_cell? w _ hx134_11)).trans hx134_11
                replace hx134_12 := (HB.out.cell (World.block_lt_of_cell? w _ hx134_12)).trans hx134_12
                replace hx134_13 := (HB.out.cell (World.block_lt_of_cell? w _ hx134_13)).trans hx134_13
                replace hx134_14 := (HB.out.cell (World.block_lt_of_cell? w _ hx134_14)).trans hx134_14
                replace hx134_15 := (HB.out.cell (World.block_lt_of_cell? w _ hx134_15)).trans hx134_15
                replace hx134_16 := (HB.out.cell (World.block_lt_of_cell? w _ hx134_16)).trans hx134_16
                replace hx134_17 := (HB.out.cell (World.block_lt_of_cell? w _ hx134_17)).trans hx134_17
                replace hx134_18 := (HB.out.cell (World.block_lt_of_cell? w _ hx134_18)).trans hx134_18
                have HR134_13 := Aside0.mk hi134_13
                have HC134_13 := Aside0.mk hl134_13
                clear hi134_13 hl134_13
                replace p134 := eq_true p134
                replace q134 := eq_true q134
                refine start_ (n := 11) (S := fun w' => w'.cell? (ad133.add ((x7_1).toNat * 19)) = some (.int .i64 ((rd_T27 l0 x7_1).f0)) ∧ w'.cell? ⟨(ad133.add ((x7_1).toNat * 19)).block, (ad133.add ((x7_1).toNat * 19)).off + 1, none⟩ = some (.int .i64 ((rd_T27 l0 x7_1).f1.f0)) ∧ w'.cell? ⟨(ad133.add ((x7_1).toNat * 19)).block, (ad133.add ((x7_1).toNat * 19)).off + 2, none⟩ = some (.int .i64 ((rd_T27 l0 x7_1).f1.f1)) ∧ w'.cell? ⟨(ad133.add ((x7_1).toNat * 19)).block, (ad133.add ((x7_1).toNat * 19)).off + 3, none⟩ = some (.string ((rd_T27 l0 x7_1).f1.f2)) ∧ w'.cell? ⟨(ad133.add ((x7_1).toNat * 19)).block, (ad133.add ((x7_1).toNat * 19)).off + 4, none⟩ = some (.int .i64 ((rd_T27 l0 x7_1).f2.f0)) ∧ w'.cell? ⟨(ad133.add ((x7_1).toNat * 19)).block, (ad133.add ((x7_1).toNat * 19)).off + 5, none⟩ = some (.int .i64 ((rd_T27 l0 x7_1).f2.f1)) ∧ w'.cell? ⟨(ad133.add ((x7_1).toNat * 19)).block, (ad133.add ((x7_1).toNat * 19)).off + 6, none⟩ = some (.string ((rd_T27 l0 x7_1).f2.f2)) ∧ w'.cell? ⟨(ad133.add ((x7_1).toNat * 19)).block, (ad133.add ((x7_1).toNat * 19)).off + 7, none⟩ = some (.bool ((rd_T27 l0 x7_1).f3)) ∧ w'.cell? ⟨(ad133.add ((x7_1).toNat * 19)).block, (ad133.add ((x7_1).toNat * 19)).off + 8, none⟩ = some (.int .u8 ((rd_T27 l0 x7_1).f4)) ∧ w'.cell? ⟨(ad133.add ((x7_1).toNat * 19)).block, (ad133.add ((x7_1).toNat * 19)).off + 9, none⟩ = some (.string ((rd_T27 l0 x7_1).f5)) ∧ w'.cell? ⟨(ad133.add ((x7_1).toNat * 19)).block, (ad133.add ((x7_1).toNat * 19)).off + 10, none⟩ = some (.string ((rd_T27 l0 x7_1).f6)) ∧ w'.cell? ⟨(ad133.add ((x7_1).toNat * 19)).block, (ad133.add ((x7_1).toNat * 19)).off + 11, none⟩ = some (.string ((rd_T27 l0 x7_1).f7)) ∧ w'.cell? ⟨(ad133.add ((x7_1).toNat * 19)).block, (ad133.add ((x7_1).toNat * 19)).off + 12, none⟩ = some (.string ((rd_T27 l0 x7_1).f8)) ∧ w'.cell? ⟨(ad133.add ((x7_1).toNat * 19)).block, (ad133.add ((x7_1).toNat * 19)).off + 13, none⟩ = some (.slice A133_13 ((rd_T27 l0 x7_1).f9).length c133_13) ∧ w'.cell? ⟨(ad133.add ((x7_1).toNat * 19)).block, (ad133.add ((x7_1).toNat * 19)).off + 14, none⟩ = some (.int .i64 ((rd_T27 l0 x7_1).f10)) ∧ w'.cell? ⟨(ad133.add ((x7_1).toNat * 19)).block, (ad133.add ((x7_1).toNat * 19)).off + 15, none⟩ = some (.bool ((rd_T27 l0 x7_1).f11)) ∧ w'.cell? ⟨(ad133.add ((x7_1).toNat * 19)).block, (ad133.add ((x7_1).toNat * 19)).off + 16, none⟩ = some (.bool ((rd_T27 l0 x7_1).f12)) ∧ w'.cell? ⟨(ad133.add ((x7_1).toNat * 19)).block, (ad133.add ((x7_1).toNat * 19)).off + 17, none⟩ = some (.string ((rd_T27 l0 x7_1).f13)) ∧ w'.cell? ⟨(ad133.add ((x7_1).toNat * 19)).block, (ad133.add ((x7_1).toNat * 19)).off + 18, none⟩ = some (.string ((rd_T27 l0 x7_1).f14)) ∧ w'.cell? (ad134.add ((x7_1).toNat * 19)) = some (.int .i64 ((rd_T27 l1 x7_1).f0)) ∧ w'.cell? ⟨(ad134.add ((x7_1).toNat * 19)).block, (ad134.add ((x7_1).toNat * 19)).off + 1, none⟩ = some (.int .i64 ((rd_T27 l1 x7_1).f1.f0)) ∧ w'.cell? ⟨(ad134.add ((x7_1).toNat * 19)).block, (ad134.add ((x7_1).toNat * 19)).off + 2, none⟩ = some (.int .i64 ((rd_T27 l1 x7_1).f1.f1)) ∧ w'.cell? ⟨(ad134.add ((x7_1).toNat * 19)).block, (ad134.add ((x7_1).toNat * 19)).off + 3, none⟩ = some (.string ((rd_T27 l1 x7_1).f1.f2)) ∧ w'.cell? ⟨(ad134.add ((x7_1).toNat * 19)).block, (ad134.add ((x7_1).toNat * 19)).off + 4, none⟩ = some (.int .i64 ((rd_T27 l1 x7_1).f2.f0)) ∧ w'.cell? ⟨(ad134.add ((x7_1).toNat * 19)).block, (ad134.add ((x7_1).toNat * 19)).off + 5, none⟩ = some (.int .i64 ((rd_T27 l1 x7_1).f2.f1)) ∧ w'.cell? ⟨(ad134.add ((x7_1).toNat * 19)).block, (ad134.add ((x7_1).toNat * 19)).off + 6, none⟩ = some (.string ((rd_T27 l1 x7_1).f2.f2)) ∧ w'.cell? ⟨(ad134.add ((x7_1).toNat * 19)).block, (ad134.add ((x7_1).toNat * 19)).off + 7, none⟩ = some (.bool ((rd_T27 l1 x7_1).f3)) ∧ w'.cell? ⟨(ad134.add ((x7_1).toNat * 19)).block, (ad134.add ((x7_1).toNat * 19)).off + 8, none⟩ = some (.int .u8 ((rd_T27 l1 x7_1).f4)) ∧ w'.cell? ⟨(ad134.add ((x7_1).toNat * 19)).block, (ad134.add ((x7_1).toNat * 19)).off + 9, none⟩ = some (.string ((rd_T27 l1 x7_1).f5)) ∧ w'.cell? ⟨(ad134.add ((x7_1).toNat * 19)).block, (ad134.add ((x7_1).toNat * 19)).off + 10, none⟩ = some (.string ((rd_T27 l1 x7_1).f6)) ∧ w'.cell? ⟨(ad134.add ((x7_1).toNat * 19)).block, (ad134.add ((x7_1).toNat * 19)).off + 11, none⟩ = some (.string ((rd_T27 l1 x7_1).f7)) ∧ w'.cell? ⟨(ad134.add ((x7_1).toNat * 19)).block, (ad134.add ((x7_1).toNat * 19)).off + 12, none⟩ = some (.string ((rd_T27 l1 x7_1).f8)) ∧ w'.cell? ⟨(ad134.add ((x7_1).toNat * 19)).block, (ad134.add ((x7_1).toNat * 19)).off + 13, none⟩ = some (.slice A134_13 ((rd_T27 l1 x7_1).f9).length c134_13) ∧ w'.cell? ⟨(ad134.add ((x7_1).toNat * 19)).block, (ad134.add ((x7_1).toNat * 19)).off + 14, none⟩ = some (.int .i64 ((rd_T27 l1 x7_1).f10)) ∧ w'.cell? ⟨(ad134.add ((x7_1).toNat * 19)).block, (ad134.add ((x7_1).toNat * 19)).off + 15, none⟩ = some (.bool ((rd_T27 l1 x7_1).f11)) ∧ w'.cell? ⟨(ad134.add ((x7_1).toNat * 19)).block, (ad134.add ((x7_1).toNat * 19)).off + 16, none⟩ = some (.bool ((rd_T27 l1 x7_1).f12)) ∧ w'.cell? ⟨(ad134.add ((x7_1).toNat * 19)).block, (ad134.add ((x7_1).toNat * 19)).off + 17, none⟩ = some (.string ((rd_T27 l1 x7_1).f13)) ∧ w'.cell? ⟨(ad134.add ((x7_1).toNat * 19)).block, (ad134.add ((x7_1).toNat * 19)).off + 18, none⟩ = some (.string ((rd_T27 l1 x7_1).f14))) (ds := []) #[false, false, false, false, false, false, false, false, false, false, false] (by kernel_rfl) rfl rfl ⟨((HB.out.cell (World.block_lt_of_cell? w _ hw133_0)).trans hw133_0), ((HB.out.cell (World.block_lt_of_cell? w _ hw133_1)).trans hw133_1), ((HB.out.cell (World.block_lt_of_cell? w _ hw133_2)).trans hw133_2), ((HB.out.cell (World.block_lt_of_cell? w _ hw133_3)).trans hw133_3), ((HB.out.cell (World.block_lt_of_cell? w _ hw133_4)).trans hw133_4), ((HB.out.cell (World.block_lt_of_cell? w _ hw133_5)).trans hw133_5), ((HB.out.cell (World.block_lt_of_cell? w _ hw133_6)).trans hw133_6), ((HB.out.cell (World.block_lt_of_cell? w _ hw133_7)).trans hw133_7), ((HB.out.cell (World.block_lt_of_cell? w _ hw133_8)).trans hw133_8), ((HB.out.cell (World.block_lt_of_cell? w _ hw133_9)).trans hw133_9), ((HB.out.cell (World.block_lt_of_cell? w _ hw133_10)).trans hw133_10), ((HB.out.cell (World.block_lt_of_cell? w _ hw133_11)).trans hw133_11), ((HB.out.cell (World.block_lt_of_cell? w _ hw133_12)).trans hw133_12), ((HB.out.cell (World.block_lt_of_cell? w _ hw133_13)).trans hw133_13), ((HB.out.cell (World.block_lt_of_cell? w _ hw133_14)).trans hw133_14), ((HB.out.cell (World.block_lt_of_cell? w _ hw133_15)).trans hw133_15), ((HB.out.cell (World.block_lt_of_cell? w _ hw133_16)).trans hw133_16), ((HB.out.cell (World.block_lt_of_cell? w _ hw133_17)).trans hw133_17), ((HB.out.cell (World.block_lt_of_cell? w _ hw133_18)).trans hw133_18), ((HB.out.cell (World.block_lt_of_cell? w _ hw134_0)).trans hw134_0), ((HB.out.cell (World.block_lt_of_cell? w _ hw134_1)).trans hw134_1), ((HB.out.cell (World.block_lt_of_cell? w _ hw134_2)).trans hw134_2), ((HB.out.cell (World.block_lt_of_cell? w _ hw134_3)).trans hw134_3), ((HB.out.cell (World.block_lt_of_cell? w _ hw134_4)).trans hw134_4), ((HB.out.cell (World.block_lt_of_cell? w _ hw134_5)).trans hw134_5), ((HB.out.cell (World.block_lt_of_cell? w _ hw134_6)).trans hw134_6), ((HB.out.cell (World.block_lt_of_cell? w _ hw134_7)).trans hw134_7), ((HB.out.cell (World.block_lt_of_cell? w _ hw134_8)).trans hw134_8), ((HB.out.cell (World.block_lt_of_cell? w _ hw134_9)).trans hw134_9), ((HB.out.cell (World.block_lt_of_cell? w _ hw134_10)).trans hw134_10), ((HB.out.cell (World.block_lt_of_cell? w _ hw134_11)).trans hw134_11), ((HB.out.cell (World.block_lt_of_cell? w _ hw134_12)).trans hw134_12), ((HB.out.cell (World.block_lt_of_cell? w _ hw134_13)).trans hw134_13), ((HB.out.cell (World.block_lt_of_cell? w _ hw134_14)).trans hw134_14), ((HB.out.cell (World.block_lt_of_cell? w _ hw134_15)).trans hw134_15), ((HB.out.cell (World.block_lt_of_cell? w _ hw134_16)).trans hw134_16), ((HB.out.cell (World.block_lt_of_cell? w _ hw134_17)).trans hw134_17), ((HB.out.cell (World.block_lt_of_cell? w _ hw134_18)).trans hw134_18)⟩ (fun hHeld => ?_); refine with_tabW runnelref18_SameList.tab6 runnelref18_SameList.bits6 (fun HT_ HW_ => ?_)
                generalize wr.drew = w12 at HB HR133_13 HR134_13 hx133_0 hx133_1 hx133_10 hx133_11 hx133_12 hx133_13 hx133_14 hx133_15 hx133_16 hx133_17 hx133_18 hx133_2 hx133_3 hx133_4 hx133_5 hx133_6 hx133_7 hx133_8 hx133_9 hx134_0 hx134_1 hx134_10 hx134_11 hx134_12 hx134_13 hx134_14 hx134_15 hx134_16 hx134_17 hx134_18 hx134_2 hx134_3 hx134_4 hx134_5 hx134_6 hx134_7 hx134_8 hx134_9 hHeld ⊢
                refine pure_ (i := 0) (N := some 19) (v := ?_) (a' := ?_) #[true, false, false, false, false, false, false, false, false, false, false] rfl rfl (any_of HT_.out (by kernel_rfl)) (fun _ _ _ h => h) (Or.inl ⟨by rfl, ?_⟩) ?_ ?_
                rotate_left
                · intro w'
                  go_simp
                  with_reducible rfl
                rotate_left
                · simp only [Act.put, List.setIfInBounds_toArray, List.set_cons_zero, List.set_cons_succ, i64_w, i32_w]
                  rfl
                refine pure_ (i := 1) (N := some 20) (v := ?_) (a' := ?_) #[true, true, false, false, false, false, false, false, false, false, false] rfl rfl (any_of HT_.out (by kernel_rfl)) (fun _ _ _ h => h) (Or.inl ⟨by rfl, ?_⟩) ?_ ?_
                rotate_left
                · intro w'
                  go_simp
                  with_reducible rfl
                rotate_left
                · simp only [Act.put, List.setIfInBounds_toArray, List.set_cons_zero, List.set_cons_succ, i64_w, i32_w]
                  rfl
                refine pure_ (i := 2) (N := some 21) (v := ?_) (a' := ?_) #[true, true, true, false, false, false, false, false, false, false, false] rfl rfl (any_of HT_.out (by kernel_rfl)) (fun _ _ _ h => h) (Or.inl ⟨by rfl, ?_⟩) ?_ ?_
                rotate_left
                · intro w'
                  go_simp
                  with_reducible rfl
                rotate_left
                · simp only [Act.put, List.setIfInBounds_toArray, List.set_cons_zero, List.set_cons_succ, i64_w, i32_w]
                  rfl
                refine pure_ (i := 4) (N := some 23) (v := ?_) (a' := ?_) #[true, true, true, false, true, false, false, false, false, false, false] rfl rfl (any_of HT_.out (by kernel_rfl)) (fun _ _ _ h => h) (Or.inl ⟨by rfl, ?_⟩) ?_ ?_
                rotate_left
                · intro w'
                  go_simp
                  with_reducible rfl
                rotate_left
                · simp only [Act.put, List.setIfInBounds_toArray, List.set_cons_zero, List.set_cons_succ, i64_w, i32_w]
                  rfl
                refine pure_ (i := 5) (N := some 24) (v := ?_) (a' := ?_) #[true, true, true, false, true, true, false, false, false, false, false] rfl rfl (any_of HT_.out (by kernel_rfl)) (fun _ _ _ h => h) (Or.inl ⟨by rfl, ?_⟩) ?_ ?_
                rotate_left
                · intro w'
                  go_simp
                  with_reducible rfl
                rotate_left
                · simp only [Act.put, List.setIfInBounds_toArray, List.set_cons_zero, List.set_cons_succ, i64_w, i32_w]
                  rfl
                refine pure_ (i := 6) (N := some 25) (v := ?_) (a' := ?_) #[true, true, true, false, true, true, true, false, false, false, false] rfl rfl (any_of HT_.out (by kernel_rfl)) (fun _ _ _ h => h) (Or.inl ⟨by rfl, ?_⟩) ?_ ?_
                rotate_left
                · intro w'
                  go_simp
                  with_reducible rfl
                rotate_left
                · simp only [Act.put, List.setIfInBounds_toArray, List.set_cons_zero, List.set_cons_succ, i64_w, i32_w]
                  rfl
                refine pure_ (i := 8) (N := some 27) (v := ?_) (a' := ?_) #[true, true, true, false, true, true, true, false, true, false, false] rfl rfl (any_of HT_.out (by kernel_rfl)) (fun _ _ _ h => h) (Or.inl ⟨by rfl, ?_⟩) ?_ ?_
                rotate_left
                · intro w'
                  go_simp
                  with_reducible rfl
                rotate_left
                · simp only [Act.put, List.setIfInBounds_toArray, List.set_cons_zero, List.set_cons_succ, i64_w, i32_w]
                  rfl
                refine take_ (i := 3) (N := some 22) (v := ?_) (a' := ?_) #[true, true, true, true, true, true, true, false, true, false, false] rfl rfl (take_ofW HT_.out HW_.out (by kernel_rfl)) (fun _ _ _ h => h) (Or.inl ⟨by rfl, ?_⟩) hHeld ?_ ?_
                rotate_left
                · rintro w' ⟨s0, s1, s2, s3, s4, s5, s6, s7, s8, s9, s10, s11, s12, s13, s14, s15, s16, s17, s18, s19, s20, s21, s22, s23, s24, s25, s26, s27, s28, s29, s30, s31, s32, s33, s34, s35, s36, s37⟩
                  refine run_load_op 27 (.tmp 21) ?_ (ad133.add ((x7_1).toNat * 19)) ?_ [.int .i64 ((rd_T27 l0 x7_1).f0), .int .i64 ((rd_T27 l0 x7_1).f1.f0), .int .i64 ((rd_T27 l0 x7_1).f1.f1), .string ((rd_T27 l0 x7_1).f1.f2), .int .i64 ((rd_T27 l0 x7_1).f2.f0), .int .i64 ((rd_T27 l0 x7_1).f2.f1), .string ((rd_T27 l0 x7_1).f2.f2), .bool ((rd_T27 l0 x7_1).f3), .int .u8 ((rd_T27 l0 x7_1).f4), .string ((rd_T27 l0 x7_1).f5), .string ((rd_T27 l0 x7_1).f6), .string ((rd_T27 l0 x7_1).f7), .string ((rd_T27 l0 x7_1).f8), .slice A133_13 ((rd_T27 l0 x7_1).f9).length c133_13, .int .i64 ((rd_T27 l0 x7_1).f10), .bool ((rd_T27 l0 x7_1).f11), .bool ((rd_T27 l0 x7_1).f12), .string ((rd_T27 l0 x7_1).f13), .string ((rd_T27 l0 x7_1).f14)] _ (cells_all ⟨s0, s1, s2, s3, s4, s5, s6, s7, s8, s9, s10, s11, s12, s13, s14, s15, s16, s17, s18, trivial⟩) Try.underlying27 rfl (by kernel_rfl) <;> rfl
                rotate_left
                · simp only [Act.put, List.setIfInBounds_toArray, List.set_cons_zero, List.set_cons_succ, i64_w, i32_w]
                  rfl
                refine take_ (i := 7) (N := some 26) (v := ?_) (a' := ?_) #[true, true, true, true, true, true, true, true, true, false, false] rfl rfl (take_ofW HT_.out HW_.out (by kernel_rfl)) (fun _ _ _ h => h) (Or.inl ⟨by rfl, ?_⟩) hHeld ?_ ?_
                rotate_left
                · rintro w' ⟨s0, s1, s2, s3, s4, s5, s6, s7, s8, s9, s10, s11, s12, s13, s14, s15, s16, s17, s18, s19, s20, s21, s22, s23, s24, s25, s26, s27, s28, s29, s30, s31, s32, s33, s34, s35, s36, s37⟩
                  refine run_load_op 27 (.tmp 25) ?_ (ad134.add ((x7_1).toNat * 19)) ?_ [.int .i64 ((rd_T27 l1 x7_1).f0), .int .i64 ((rd_T27 l1 x7_1).f1.f0), .int .i64 ((rd_T27 l1 x7_1).f1.f1), .string ((rd_T27 l1 x7_1).f1.f2), .int .i64 ((rd_T27 l1 x7_1).f2.f0), .int .i64 ((rd_T27 l1 x7_1).f2.f1), .string ((rd_T27 l1 x7_1).f2.f2), .bool ((rd_T27 l1 x7_1).f3), .int .u8 ((rd_T27 l1 x7_1).f4), .string ((rd_T27 l1 x7_1).f5), .string ((rd_T27 l1 x7_1).f6), .string ((rd_T27 l1 x7_1).f7), .string ((rd_T27 l1 x7_1).f8), .slice A134_13 ((rd_T27 l1 x7_1).f9).length c134_13, .int .i64 ((rd_T27 l1 x7_1).f10), .bool ((rd_T27 l1 x7_1).f11), .bool ((rd_T27 l1 x7_1).f12), .string ((rd_T27 l1 x7_1).f13), .string ((rd_T27 l1 x7_1).f14)] _ (cells_all ⟨s19, s20, s21, s22, s23, s24, s25, s26, s27, s28, s29, s30, s31, s32, s33, s34, s35, s36, s37, trivial⟩) Try.underlying27 rfl (by kernel_rfl) <;> rfl
                rotate_left
                · simp only [Act.put, List.setIfInBounds_toArray, List.set_cons_zero, List.set_cons_succ, i64_w, i32_w]
                  rfl
                refine one_ (i := 9) (N := some 28) #[true, true, true, true, true, true, true, true, true, true, false] rfl rfl (one_of HT_.out (by kernel_rfl)) (by decide) (fun K hK => ?_)
                refine goes_ Try.func57 (by kernel_rfl) rfl #[.agg #[.int .i64 ((rd_T27 l0 x7_1).f0), .int .i64 ((rd_T27 l0 x7_1).f1.f0), .int .i64 ((rd_T27 l0 x7_1).f1.f1), .string ((rd_T27 l0 x7_1).f1.f2), .int .i64 ((rd_T27 l0 x7_1).f2.f0), .int .i64 ((rd_T27 l0 x7_1).f2.f1), .string ((rd_T27 l0 x7_1).f2.f2), .bool ((rd_T27 l0 x7_1).f3), .int .u8 ((rd_T27 l0 x7_1).f4), .string ((rd_T27 l0 x7_1).f5), .string ((rd_T27 l0 x7_1).f6), .string ((rd_T27 l0 x7_1).f7), .string ((rd_T27 l0 x7_1).f8), .slice A133_13 ((rd_T27 l0 x7_1).f9).length c133_13, .int .i64 ((rd_T27 l0 x7_1).f10), .bool ((rd_T27 l0 x7_1).f11), .bool ((rd_T27 l0 x7_1).f12), .string ((rd_T27 l0 x7_1).f13), .string ((rd_T27 l0 x7_1).f14)], .agg #[.int .i64 ((rd_T27 l1 x7_1).f0), .int .i64 ((rd_T27 l1 x7_1).f1.f0), .int .i64 ((rd_T27 l1 x7_1).f1.f1), .string ((rd_T27 l1 x7_1).f1.f2), .int .i64 ((rd_T27 l1 x7_1).f2.f0), .int .i64 ((rd_T27 l1 x7_1).f2.f1), .string ((rd_T27 l1 x7_1).f2.f2), .bool ((rd_T27 l1 x7_1).f3), .int .u8 ((rd_T27 l1 x7_1).f4), .string ((rd_T27 l1 x7_1).f5), .string ((rd_T27 l1 x7_1).f6), .string ((rd_T27 l1 x7_1).f7), .string ((rd_T27 l1 x7_1).f8), .slice A134_13 ((rd_T27 l1 x7_1).f9).length c134_13, .int .i64 ((rd_T27 l1 x7_1).f10), .bool ((rd_T27 l1 x7_1).f11), .bool ((rd_T27 l1 x7_1).f12), .string ((rd_T27 l1 x7_1).f13), .string ((rd_T27 l1 x7_1).f14)], .bool a2] (by rfl) rfl rfl (by (try simp only [List.map_toArray, List.map_cons, List.map_nil]); first | done | rfl | (simp only [List.length_drop, List.length_take]; rfl)) ?_
                with_reducible refine (runnelref18_Same.calls ((rd_T27 l0 x7_1).f0) ((rd_T27 l0 x7_1).f1.f0) ((rd_T27 l0 x7_1).f1.f1) ((rd_T27 l0 x7_1).f1.f2) ((rd_T27 l0 x7_1).f2.f0) ((rd_T27 l0 x7_1).f2.f1) ((rd_T27 l0 x7_1).f2.f2) ((rd_T27 l0 x7_1).f3) ((rd_T27 l0 x7_1).f4) ((rd_T27 l0 x7_1).f5) ((rd_T27 l0 x7_1).f6) ((rd_T27 l0 x7_1).f7) ((rd_T27 l0 x7_1).f8) _ _ ((rd_T27 l0 x7_1).f9) ((rd_T27 l0 x7_1).f10) ((rd_T27 l0 x7_1).f11) ((rd_T27 l0 x7_1).f12) ((rd_T27 l0 x7_1).f13) ((rd_T27 l0 x7_1).f14) ((rd_T27 l1 x7_1).f0) ((rd_T27 l1 x7_1).f1.f0) ((rd_T27 l1 x7_1).f1.f1) ((rd_T27 l1 x7_1).f1.f2) ((rd_T27 l1 x7_1).f2.f0) ((rd_T27 l1 x7_1).f2.f1) ((rd_T27 l1 x7_1).f2.f2) ((rd_T27 l1 x7_1).f3) ((rd_T27 l1 x7_1).f4) ((rd_T27 l1 x7_1).f5) ((rd_T27 l1 x7_1).f6) ((rd_T27 l1 x7_1).f7) ((rd_T27 l1 x7_1).f8) _ _ ((rd_T27 l1 x7_1).f9) ((rd_T27 l1 x7_1).f10) ((rd_T27 l1 x7_1).f11) ((rd_T27 l1 x7_1).f12) ((rd_T27 l1 x7_1).f13) ((rd_T27 l1 x7_1).f14) a2 false _ ?side1 ?side2 ?side3 ?side4 A8.out).mono ?_
                (case side1 => repeat (first | exact (Kd.C_below HR133_13.out HB.out) | (with_reducible refine Kd.C_alloc ?_ _) | (with_reducible refine Kd.C_drewN ?_ _) | (with_reducible refine Kd.C_drew ?_)))
                (case side2 => exact HC133_13.out)
                (case side3 => repeat (first | exact (Kd.C_below HR134_13.out HB.out) | (with_reducible refine Kd.C_alloc ?_ _) | (with_reducible refine Kd.C_drewN ?_ _) | (with_reducible refine Kd.C_drew ?_)))
                (case side4 => exact HC134_13.out)
                rintro e w13 ⟨rfl, hb⟩
                refine ⟨_, rfl, ?_⟩
                have n0_ := Aside0.mk (below_step (by repeat (first | (with_reducible first | exact HB.out | apply below_alloc | apply pw_below_drewN | apply below_drew1) | exact HB.out)) hb)
                clear HB
                have HB := n0_
                clear n0_
                (try clear hb)
                (try clear hb2)
                (try clear hk)
                (try clear hi)
                refine hK.out _ _ ⟨((HB.out.cell (World.block_lt_of_cell? w _ hw133_0)).trans hw133_0), ((HB.out.cell (World.block_lt_of_cell? w _ hw133_1)).trans hw133_1), ((HB.out.cell (World.block_lt_of_cell? w _ hw133_2)).trans hw133_2), ((HB.out.cell (World.block_lt_of_cell? w _ hw133_3)).trans hw133_3), ((HB.out.cell (World.block_lt_of_cell? w _ hw133_4)).trans hw133_4), ((HB.out.cell (World.block_lt_of_cell? w _ hw133_5)).trans hw133_5), ((HB.out.cell (World.block_lt_of_cell? w _ hw133_6)).trans hw133_6), ((HB.out.cell (World.block_lt_of_cell? w _ hw133_7)).trans hw133_7), ((HB.out.cell (World.block_lt_of_cell? w _ hw133_8)).trans hw133_8), ((HB.out.cell (World.block_lt_of_cell? w _ hw133_9)).trans hw133_9), ((HB.out.cell (World.block_lt_of_cell? w _ hw133_10)).trans hw133_10), ((HB.out.cell (World.block_lt_of_cell? w _ hw133_11)).trans hw133_11), ((HB.out.cell (World.block_lt_of_cell? w _ hw133_12)).trans hw133_12), ((HB.out.cell (World.block_lt_of_cell? w _ hw133_13)).trans hw133_13), ((HB.out.cell (World.block_lt_of_cell? w _ hw133_14)).trans hw133_14), ((HB.out.cell (World.block_lt_of_cell? w _ hw133_15)).trans hw133_15), ((HB.out.cell (World.block_lt_of_cell? w _ hw133_16)).trans hw133_16), ((HB.out.cell (World.block_lt_of_cell? w _ hw133_17)).trans hw133_17), ((HB.out.cell (World.block_lt_of_cell? w _ hw133_18)).trans hw133_18), ((HB.out.cell (World.block_lt_of_cell? w _ hw134_0)).trans hw134_0), ((HB.out.cell (World.block_lt_of_cell? w _ hw134_1)).trans hw134_1), ((HB.out.cell (World.block_lt_of_cell? w _ hw134_2)).trans hw134_2), ((HB.out.cell (World.block_lt_of_cell? w _ hw134_3)).trans hw134_3), ((HB.out.cell (World.block_lt_of_cell? w _ hw134_4)).trans hw134_4), ((HB.out.cell (World.block_lt_of_cell? w _ hw134_5)).trans hw134_5), ((HB.out.cell (World.block_lt_of_cell? w _ hw134_6)).trans hw134_6), ((HB.out.cell (World.block_lt_of_cell? w _ hw134_7)).trans hw134_7), ((HB.out.cell (World.block_lt_of_cell? w _ hw134_8)).trans hw134_8), ((HB.out.cell (World.block_lt_of_cell? w _ hw134_9)).trans hw134_9), ((HB.out.cell (World.block_lt_of_cell? w _ hw134_10)).trans hw134_10), ((HB.out.cell (World.block_lt_of_cell? w _ hw134_11)).trans hw134_11), ((HB.out.cell (World.block_lt_of_cell? w _ hw134_12)).trans hw134_12), ((HB.out.cell (World.block_lt_of_cell? w _ hw134_13)).trans hw134_13), ((HB.out.cell (World.block_lt_of_cell? w _ hw134_14)).trans hw134_14), ((HB.out.cell (World.block_lt_of_cell? w _ hw134_15)).trans hw134_15), ((HB.out.cell (World.block_lt_of_cell? w _ hw134_16)).trans hw134_16), ((HB.out.cell (World.block_lt_of_cell? w _ hw134_17)).trans hw134_17), ((HB.out.cell (World.block_lt_of_cell? w _ hw134_18)).trans hw134_18)⟩ (fun hHeld => ?_)
                clear hK K
                refine norm_ (a' := ?_) ?_ ?_
                rotate_left
                · show Act.put _ (some 28) _ = _
                  simp only [Act.put, List.setIfInBounds_toArray, List.set_cons_zero, List.set_cons_succ, i64_w, i32_w]
                  rfl
                refine pure_ (i := 10) (N := some 29) (v := ?_) (a' := ?_) #[true, true, true, true, true, true, true, true, true, true, true] rfl rfl (any_of HT_.out (by kernel_rfl)) (fun _ _ _ h => h) (Or.inl ⟨by rfl, ?_⟩) ?_ ?_
                rotate_left
                · intro w'
                  go_simp
                  with_reducible rfl
                rotate_left
                · simp only [Act.put, List.setIfInBounds_toArray, List.set_cons_zero, List.set_cons_succ, i64_w, i32_w]
                  rfl
                refine done_ (done_of HT_.out (by kernel_rfl)) ?_
                try go_wp2
                go_ret
                exact ⟨by first | rfl | (simp only [wrap_wrap]; done) | (simp only [wrap_wrap]; rfl) | (simp [errW_none, errW_some] <;> rfl) | (simp [*, errW_none, errW_some] <;> rfl), by repeat (first | (with_reducible first | exact HB.out | apply below_alloc | apply pw_below_drewN | apply below_drew1) | exact HB.out)⟩
            · rw [if_neg c7] at H
              exact absurd H (by simp)
          · rw [if_neg c6] at H
            exact absurd H (by simp)
        · rw [if_neg c5] at H
          have c5b0 : decide (x7_1 < (l0.length : Int)) = false := decide_eq_false c5
          clear c5
          obtain rfl := Option.some.inj H
          go_wp2
          go_ret
          exact ⟨by first | rfl | (simp only [wrap_wrap]; done) | (simp only [wrap_wrap]; rfl) | (simp [errW_none, errW_some] <;> rfl) | (simp [*, errW_none, errW_some] <;> rfl), by repeat (first | (with_reducible first | exact HB.out | apply below_alloc | apply pw_below_drewN | apply below_drew1) | exact HB.out)⟩
  · rw [if_neg c4] at H
    have c4b0 : ((l0.length : Int) == (l1.length : Int)) = false := beq_eq_false_iff_ne.mpr c4
    have c4b1 : ((l0.length : Int) != (l1.length : Int)) = true := bne_iff_ne.mpr c4
    have c4b2 : (l0.length == l1.length) = false := by first | simpa using c4 | (simp at c4 ⊢; omega)
    obtain rfl := Option.some.inj H
    go_enter Try.func21, Try.ntmps21
    go_wp2
    go_ret
    exact ⟨by first | rfl | (simp only [wrap_wrap]; done) | (simp only [wrap_wrap]; rfl) | (simp [errW_none, errW_some] <;> rfl) | (simp [*, errW_none, errW_some] <;> rfl), by repeat (first | (with_reducible first | exact HB.out | apply below_alloc | apply pw_below_drewN | apply below_drew1) | exact HB.out)⟩

end Go.Proofs.Ytdlbmajilmmapaa.F
