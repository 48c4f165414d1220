-- Made by a program of this session (wip/tools/pr.py over the kit's printer). Not trusted: Lean checks it.
import Derived.Test.YtdlbmajilmmapaaFx
import Derived.Test.YtdlbmajilmmapaaF60
namespace Go.Proofs.Ytdlbmajilmmapaa.F
open Go.RowKit Go.Proofs.YtdlbmajilmmapaaW.PrintWords Go.Proofs.YtdlbmajilmmapaaW.PrintLast Go.Proofs.YtdlbmajilmmapaaW.PrintMore
attribute [local go_sem] max2_int min2_int max_two min_two max_three min_three max_four min_four
set_option linter.unusedVariables false
set_option linter.unusedSimpArgs false

/-! ### runnelref13_DocParse: function 23 -/
mutual
def runnelref13_DocParse.l0 : Nat → ByteArray → List (S117) → Int → Option ((List (S117)) × Int × Int)
  | 0, _, _, _ => none
  | k + 1, x0, x5, x6 => if x6 < (x0.size : Int) then (if 0 ≤ x6 then (if x6 ≤ (wrap64 (x6 + 1)) then (if (wrap64 (x6 + 1)) ≤ (x0.size : Int) then (if (bt x0 x6) = 10 then (some (([] : List (S117)), 19, x6)) else (if (bt x0 x6) = 38 then (runnelref13_DocParse.j1 k x0 x5 x6 0 (⟨#[]⟩ : ByteArray)) else (runnelref13_DocParse.j1 k x0 x5 x6 (-1) (x0.extract (x6 : Int).toNat ((wrap64 (x6 + 1)) : Int).toNat)))) else (none)) else (none)) else (none)) else (some (x5, 0, 0))
def runnelref13_DocParse.j1 : Nat → ByteArray → List (S117) → Int → Int → ByteArray → Option ((List (S117)) × Int × Int)
  | 0, _, _, _, _, _ => none
  | k + 1, x0, x5, x6, x174000, x174001 => if 0 ≤ x6 then (if x6 < (x0.size : Int) then (if (bt x0 x6) = 92 then (if (wrap64 (x6 + 1)) = (x0.size : Int) then (some (([] : List (S117)), 6, wrap64 ((wrap64 (x6 + 1)) - 1))) else (if 0 ≤ (wrap64 (x6 + 1)) then (if (wrap64 (x6 + 1)) ≤ (wrap64 ((wrap64 (x6 + 1)) + 1)) then (if (wrap64 ((wrap64 (x6 + 1)) + 1)) ≤ (x0.size : Int) then (if (wrap64 (x6 + 1)) < (x0.size : Int) then (if (bt x0 (wrap64 (x6 + 1))) = 110 then (if (bt x0 (wrap64 (x6 + 1))) ≥ 48 then (if (bt x0 (wrap64 (x6 + 1))) ≤ 57 then ((runnelref13_laid.f x5 (((bt x0 (wrap64 (x6 + 1))) - 48) % 256) (⟨#[]⟩ : ByteArray)).bind fun t174 => (runnelref13_DocParse.l0 k x0 t174 (wrap64 ((wrap64 (x6 + 1)) + 1)))) else ((runnelref13_laid.f x5 x174000 (⟨#[10]⟩ : ByteArray)).bind fun t177 => (runnelref13_DocParse.l0 k x0 t177 (wrap64 ((wrap64 (x6 + 1)) + 1))))) else ((runnelref13_laid.f x5 x174000 (⟨#[10]⟩ : ByteArray)).bind fun t180 => (runnelref13_DocParse.l0 k x0 t180 (wrap64 ((wrap64 (x6 + 1)) + 1))))) else (if (bt x0 (wrap64 (x6 + 1))) ≥ 48 then (if (bt x0 (wrap64 (x6 + 1))) ≤ 57 then ((runnelref13_laid.f x5 (((bt x0 (wrap64 (x6 + 1))) - 48) % 256) (⟨#[]⟩ : ByteArray)).bind fun t183 => (runnelref13_DocParse.l0 k x0 t183 (wrap64 ((wrap64 (x6 + 1)) + 1)))) else ((runnelref13_laid.f x5 x174000 (x0.extract ((wrap64 (x6 + 1)) : Int).toNat ((wrap64 ((wrap64 (x6 + 1)) + 1)) : Int).toNat)).bind fun t186 => (runnelref13_DocParse.l0 k x0 t186 (wrap64 ((wrap64 (x6 + 1)) + 1))))) else ((runnelref13_laid.f x5 x174000 (x0.extract ((wrap64 (x6 + 1)) : Int).toNat ((wrap64 ((wrap64 (x6 + 1)) + 1)) : Int).toNat)).bind fun t189 => (runnelref13_DocParse.l0 k x0 t189 (wrap64 ((wrap64 (x6 + 1)) + 1)))))) else (none)) else (none)) else (none)) else (none))) else ((runnelref13_laid.f x5 x174000 x174001).bind fun t192 => (runnelref13_DocParse.l0 k x0 t192 (wrap64 (x6 + 1))))) else (none)) else (none)
end
def runnelref13_DocParse.f (k : Nat) (a0 : ByteArray) : Option ((List (S117)) × Int × Int) := if (a0.size : Int) > 4096 then (some (([] : List (S117)), 2, 0)) else (runnelref13_DocParse.l0 k a0 ([] : List (S117)) 0)
theorem runnelref13_DocParse.mono_l : ∀ k, (∀ y0 y1 y2, LeO (runnelref13_DocParse.l0 k y0 y1 y2) (runnelref13_DocParse.l0 (k + 1) y0 y1 y2)) ∧ (∀ y0 y1 y2 y3 y4, LeO (runnelref13_DocParse.j1 k y0 y1 y2 y3 y4) (runnelref13_DocParse.j1 (k + 1) y0 y1 y2 y3 y4))
  | 0 => ⟨fun _ _ _ r h => by simp [runnelref13_DocParse.l0] at h, fun _ _ _ _ _ r h => by simp [runnelref13_DocParse.j1] at h⟩
  | k + 1 => by
    obtain ⟨ih0, ih1⟩ := runnelref13_DocParse.mono_l k
    refine ⟨?_, ?_⟩
    · intro y0 y1 y2
      unfold runnelref13_DocParse.l0
      repeat' first
      | (with_reducible exact ih0 _ _ _)
      | (with_reducible exact ih1 _ _ _ _ _)
      | (with_reducible exact LeO.refl _)
      | (with_reducible exact LeO.none _)
      | (with_reducible refine LeO.ite ?_ ?_)
      | (with_reducible refine LeO.bind ?_ (fun _ => ?_))
      | exact ih0 _ _ _
      | exact ih1 _ _ _ _ _
      | exact LeO.none _
      | refine LeO.ite ?_ ?_
      | refine LeO.bind ?_ (fun _ => ?_)
    · intro y0 y1 y2 y3 y4
      unfold runnelref13_DocParse.j1
      repeat' first
      | (with_reducible exact ih0 _ _ _)
      | (with_reducible exact ih1 _ _ _ _ _)
      | (with_reducible exact LeO.refl _)
      | (with_reducible exact LeO.none _)
      | (with_reducible refine LeO.ite ?_ ?_)
      | (with_reducible refine LeO.bind ?_ (fun _ => ?_))
      | exact ih0 _ _ _
      | exact ih1 _ _ _ _ _
      | exact LeO.none _
      | refine LeO.ite ?_ ?_
      | refine LeO.bind ?_ (fun _ => ?_)
theorem runnelref13_DocParse.mono : ∀ a0 k, LeO (runnelref13_DocParse.f k a0) (runnelref13_DocParse.f (k + 1) a0) := by
  intro a0 k
  obtain ⟨ih0, ih1⟩ := runnelref13_DocParse.mono_l k
  unfold runnelref13_DocParse.f
  repeat' first
      | (with_reducible exact ih0 _ _ _)
      | (with_reducible exact ih1 _ _ _ _ _)
      | (with_reducible exact LeO.refl _)
      | (with_reducible exact LeO.none _)
      | (with_reducible refine LeO.ite ?_ ?_)
      | (with_reducible refine LeO.bind ?_ (fun _ => ?_))
      | exact ih0 _ _ _
      | exact ih1 _ _ _ _ _
      | exact LeO.none _
      | refine LeO.ite ?_ ?_
      | refine LeO.bind ?_ (fun _ => ?_)
set_option maxHeartbeats 8000000 in
set_option maxRecDepth 100000 in
theorem runnelref13_DocParse.calls (k : Nat) (a0 : ByteArray) (r1 : List (S117)) (r2 : Int) (r3 : Int) (w : World) (h : runnelref13_DocParse.f k a0 = some (r1, r2, r3)) :
    Calls Try.prog 23 #[.string a0] w fun e w' => ∃ v0_ : Value, e = .returned (.tuple #[v0_, .int .i64 r2, .int .i64 r3]) ∧ Kd.R k117 117 w' w.heap.size (fun _ => True) v0_ r1 ∧ Below w.heap.size w w' := by
  have hu117 := Try.underlying117
  have HB := Aside0.mk (Below.refl w.heap.size w)
  have H : (if (a0.size : Int) > 4096 then (some (([] : List (S117)), 2, 0)) else (runnelref13_DocParse.l0 k a0 ([] : List (S117)) 0)) = some (r1, r2, r3) := h
  clear h
  by_cases c2 : (a0.size : Int) > 4096
  · rw [if_pos c2] at H
    have c2b0 : decide (4096 < (a0.size : Int)) = true := decide_eq_true c2
    have c2b1 : decide (4096 < a0.size) = true := decide_eq_true (by omega)
    clear c2
    simp only [Option.some.injEq, Prod.mk.injEq] at H
    obtain ⟨rfl, rfl, rfl⟩ := H
    go_enter Try.func23, Try.ntmps23
    go_wp2
    go_ret3
    exact ⟨_, by first | rfl | (simp [errW_none, errW_some] <;> rfl) | (simp [*, errW_none, errW_some] <;> rfl), by first | exact Kd.R_nil _ _ _ _ _ | exact Kd.N_nil _ _ _ _ _ | exact Kd.V_nil _ _ _ _ _ | exact Kd.Q_nil _ _ _ _ _ | exact Kd.S_nil _ _ _ _ _, by repeat (first | (with_reducible first | exact HB.out | apply below_alloc | apply pw_below_drewN | apply below_drew1) | exact HB.out)⟩
  · rw [if_neg c2] at H
    have c2b0 : decide (4096 < (a0.size : Int)) = false := decide_eq_false c2
    have c2b1 : decide (4096 < a0.size) = false := decide_eq_false (by omega)
    clear c2
    have H' := Aside0.mk H
    clear H
    go_enter Try.func23, Try.ntmps23
    go_wp2
    go_loopg [5, 6] k (fun kq v5 v6 w' => ∃ (x5_1 : List (S117)) (x6_1 : Int), v6 = .int .i64 x6_1 ∧ Aside0 (runnelref13_DocParse.l0 kq a0 x5_1 x6_1 = some (r1, r2, r3)) ∧ Aside0 (kq ≤ k) ∧ Aside0 (Kd.R k117 117 w' w.heap.size (fun _ => True) v5 x5_1) ∧ Aside0 (Below w.heap.size w w'))
    case atStart => exact ⟨(([] : List (S117))), (0), (by first | rfl | (simp; done) | (simp [*]; done)), H', ⟨Nat.le_refl _⟩, ⟨by first | exact Kd.R_nil _ _ _ _ _ | exact Kd.N_nil _ _ _ _ _ | exact Kd.V_nil _ _ _ _ _ | exact Kd.Q_nil _ _ _ _ _ | exact Kd.S_nil _ _ _ _ _⟩, ⟨by repeat (first | (with_reducible first | exact HB.out | apply below_alloc | apply pw_below_drewN | apply below_drew1) | exact HB.out)⟩⟩
    case round =>
      clear H'
      try clear c2
      try clear c2b0
      try clear c2b1
      try clear p2
      obtain ⟨x5_1, x6_1, rfl, HA, HK1, HO_5, HB⟩ := hrel
      cases gk with
      | zero => exact absurd HA.out (by simp [runnelref13_DocParse.l0])
      | succ k1 =>
        have H := HA.out
        clear HA
        simp only [runnelref13_DocParse.l0] at H
        by_cases c3 : x6_1 < (a0.size : Int)
        · rw [if_pos c3] at H
          have c3b0 : decide (x6_1 < (a0.size : Int)) = true := decide_eq_true c3
          clear c3
          by_cases c4 : 0 ≤ x6_1
          · rw [if_pos c4] at H
            have c4b0 := eq_true c4
            have c4b1 : decide (0 ≤ x6_1) = true := decide_eq_true c4
            clear c4
            by_cases c5 : x6_1 ≤ (wrap64 (x6_1 + 1))
            · rw [if_pos c5] at H
              have c5b0 := eq_true c5
              have c5b1 : decide (x6_1 ≤ (wrap64 (x6_1 + 1))) = true := decide_eq_true c5
              by_cases c6 : (wrap64 (x6_1 + 1)) ≤ (a0.size : Int)
              · rw [if_pos c6] at H
                have c6b0 := eq_true c6
                have c6b1 : decide ((wrap64 (x6_1 + 1)) ≤ (a0.size : Int)) = true := decide_eq_true c6
                by_cases c8 : (bt a0 x6_1) = 10
                · rw [if_pos c8] at H
                  have c8b0 : ((bt a0 x6_1) == 10) = true := beq_iff_eq.mpr c8
                  have c8b1 : ((bt a0 x6_1) != 10) = false := bne_eq_false_iff_eq.mpr c8
                  clear c8
                  simp only [Option.some.injEq, Prod.mk.injEq] at H
                  obtain ⟨rfl, rfl, rfl⟩ := H
                  go_wp2_with (first | ((with_reducible refine gate_dst (N := 7) rfl ?_); refine box_event ?hg (N := 7) ?hd (cs := #[.int .i64 0, .string (⟨#[]⟩ : ByteArray)]) (t := 117) ?hr ?_; (case hd => rfl); (case hg => rfl); (case hr => first | (go_simp; done) | (go_simp; rfl)); intro gb173 hg w9 hbox hb; have n0_ := Aside0.mk (Kd.R_below (Kd.R_elderB (by (with_reducible repeat (first | apply Kd.R_alloc | apply Kd.R_drewN | apply Kd.R_drew)); exact HO_5.out) gb173 (Nat.le_of_eq hg.symm)) hb); have n1_ := Aside0.mk (below_step (by repeat (first | (with_reducible first | exact HB.out | apply below_alloc | apply pw_below_drewN | apply below_drew1) | exact HB.out)) hb); have n2_ := Aside0.mk (hbox); have n3_ := Aside0.mk ((by rw [hg]; exact (below_size (by repeat (first | (with_reducible first | exact HB.out | apply below_alloc | apply pw_below_drewN | apply below_drew1) | exact HB.out))) : w.heap.size ≤ gb173)); have n4_ := Aside0.mk ((by rw [hg]; exact (below_size (by repeat (first | (with_reducible first | exact HB.out | apply below_alloc | apply pw_below_drewN | apply below_drew1) | exact HB.out))) : w.heap.size ≤ gb173)); clear HO_5; clear HB; have HO_5 := n0_; have HB := n1_; have BK173 := n2_; have GW173 := n3_; have GE173 := n4_; clear n0_ n1_ n2_ n3_ n4_; clear hb hbox hg; have hcz10_0 : w9.cell? ⟨gb173, 0, none⟩ = some (.int .i64 0) := (blk_cell BK173.out 0).trans rfl; have hcz10_1 : w9.cell? ⟨gb173, 1, none⟩ = some (.string (⟨#[]⟩ : ByteArray)) := (blk_cell BK173.out 1).trans rfl; have hfz10_0 := blk_frozen BK173.out 0; have hfz10_1 := blk_frozen BK173.out 1; have p7 : 0 ≤ (x6_1 : Int) := of_decide_eq_true (by first | (with_reducible assumption) | assumption); have q7 : x6_1 < (a0.size : Int) := of_decide_eq_true (by first | (with_reducible assumption) | assumption); have hx7 := bt_at a0 x6_1; replace p7 := eq_true p7; replace q7 := eq_true q7))
                  go_ret3
                  exact ⟨_, by first | rfl | (simp [errW_none, errW_some] <;> rfl) | (simp [*, errW_none, errW_some] <;> rfl), by first | exact Kd.R_nil _ _ _ _ _ | exact Kd.N_nil _ _ _ _ _ | exact Kd.V_nil _ _ _ _ _ | exact Kd.Q_nil _ _ _ _ _ | exact Kd.S_nil _ _ _ _ _, by repeat (first | (with_reducible first | exact HB.out | apply below_alloc | apply pw_below_drewN | apply below_drew1 | refine below_set ?_ GE173.out) | exact HB.out)⟩
                · rw [if_neg c8] at H
                  have c8b0 : ((bt a0 x6_1) == 10) = false := beq_eq_false_iff_ne.mpr c8
                  have c8b1 : ((bt a0 x6_1) != 10) = true := bne_iff_ne.mpr c8
                  have HC12 := Aside0.mk H
                  clear H
                  go_upto_if 31 with (first | ((with_reducible refine gate_dst (N := 7) rfl ?_); refine box_event ?hg (N := 7) ?hd (cs := #[.int .i64 0, .string (⟨#[]⟩ : ByteArray)]) (t := 117) ?hr ?_; (case hd => rfl); (case hg => rfl); (case hr => first | (go_simp; done) | (go_simp; rfl)); intro gb173 hg w13 hbox hb; have n0_ := Aside0.mk (Kd.R_below (Kd.R_elderB (by (with_reducible repeat (first | apply Kd.R_alloc | apply Kd.R_drewN | apply Kd.R_drew)); exact HO_5.out) gb173 (Nat.le_of_eq hg.symm)) hb); have n1_ := Aside0.mk (below_step (by repeat (first | (with_reducible first | exact HB.out | apply below_alloc | apply pw_below_drewN | apply below_drew1) | exact HB.out)) hb); have n2_ := Aside0.mk (hbox); have n3_ := Aside0.mk ((by rw [hg]; exact (below_size (by repeat (first | (with_reducible first | exact HB.out | apply below_alloc | apply pw_below_drewN | apply below_drew1) | exact HB.out))) : w.heap.size ≤ gb173)); have n4_ := Aside0.mk ((by rw [hg]; exact (below_size (by repeat (first | (with_reducible first | exact HB.out | apply below_alloc | apply pw_below_drewN | apply below_drew1) | exact HB.out))) : w.heap.size ≤ gb173)); clear HO_5; clear HB; have HO_5 := n0_; have HB := n1_; have BK173 := n2_; have GW173 := n3_; have GE173 := n4_; clear n0_ n1_ n2_ n3_ n4_; clear hb hbox hg; have hcz14_0 : w13.cell? ⟨gb173, 0, none⟩ = some (.int .i64 0) := (blk_cell BK173.out 0).trans rfl; have hcz14_1 : w13.cell? ⟨gb173, 1, none⟩ = some (.string (⟨#[]⟩ : ByteArray)) := (blk_cell BK173.out 1).trans rfl; have hfz14_0 := blk_frozen BK173.out 0; have hfz14_1 := blk_frozen BK173.out 1; have p7 : 0 ≤ (x6_1 : Int) := of_decide_eq_true (by first | (with_reducible assumption) | assumption); have q7 : x6_1 < (a0.size : Int) := of_decide_eq_true (by first | (with_reducible assumption) | assumption); have hx7 := bt_at a0 x6_1; replace p7 := eq_true p7; replace q7 := eq_true q7; have p11 : 0 ≤ (x6_1 : Int) := of_decide_eq_true (by first | (with_reducible assumption) | assumption); have q11 : x6_1 < (a0.size : Int) := of_decide_eq_true (by first | (with_reducible assumption) | assumption); have hx11 := bt_at a0 x6_1; replace p11 := eq_true p11; replace q11 := eq_true q11))
                  (try simp only [Act.put, List.setIfInBounds_toArray, List.set_cons_zero, List.set_cons_succ])
                  go_cut [] (fun wc => ∃ (kq : Nat) (x174000_11 : Int) (x174001_11 : ByteArray), Aside0 (runnelref13_DocParse.j1 kq a0 x5_1 x6_1 x174000_11 x174001_11 = some (r1, r2, r3)) ∧ Aside0 (kq ≤ k1) ∧ Aside0 (Kd.R k117 117 wc w.heap.size (fun k_ => k_ ≠ gb173) u5 x5_1) ∧ Aside0 (wc.heap[gb173]? = some (.cells #[.int .i64 x174000_11, .string x174001_11] 117 (0, 0))) ∧ Aside0 (Below w.heap.size w wc))
                  case first =>
                    have H := HC12.out
                    clear HC12
                    by_cases c15 : (bt a0 x6_1) = 38
                    · rw [if_pos c15] at H
                      have c15b0 : ((bt a0 x6_1) == 38) = true := beq_iff_eq.mpr c15
                      have c15b1 : ((bt a0 x6_1) != 38) = false := bne_eq_false_iff_eq.mpr c15
                      clear c15
                      (first | rw [c15b0] | (simp only [i64_w, i32_w]; rw [c15b0]) | skip)
                      have H' := Aside0.mk H
                      clear H
                      have hcz16_0 : w13.cell? ⟨gb173, 0, none⟩ = some (.int .i64 0) := (blk_cell BK173.out 0).trans rfl
                      have hcz16_1 : w13.cell? ⟨gb173, 1, none⟩ = some (.string (⟨#[]⟩ : ByteArray)) := (blk_cell BK173.out 1).trans rfl
                      have hfz16_0 := blk_frozen BK173.out 0
                      have hfz16_1 := blk_frozen BK173.out 1
                      go_wp2
                      go_meet
                      case rel => exact ⟨_, (0), ((⟨#[]⟩ : ByteArray)), H', ⟨by have := HK1.out; first | omega | exact Nat.le_refl _⟩, ⟨by (with_reducible repeat (first | apply Kd.R_alloc | apply Kd.R_drewN | apply Kd.R_drew)); exact Kd.R_mono (Kd.R_far (p := ⟨gb173, 1, none⟩) (Kd.R_far (p := ⟨gb173, 0, none⟩) (Kd.R_far (p := ⟨gb173, 1, none⟩) (Kd.R_far (p := ⟨gb173, 0, none⟩) (Kd.R_mono HO_5.out (fun k_ hk => (⟨hk, hk.2⟩ : _ ∧ k_ ≠ gb173))) (fun _ hk => hk.2) (.int .i64 (-1))) (fun _ hk => hk.2) (.string (a0.extract (x6_1 : Int).toNat ((wrap64 (x6_1 + 1)) : Int).toNat))) (fun _ hk => hk.2) (.int .i64 0)) (fun _ hk => hk.2) (.string (⟨#[]⟩ : ByteArray))) (fun _ hk => hk.1.2)⟩, ⟨by (with_reducible repeat (first | refine blk_drewN ?_ _ | refine blk_drew ?_ | refine blk_alloc ?_ _)); refine blk_put (cs := #[.int .i64 0, .string (a0.extract (x6_1 : Int).toNat ((wrap64 (x6_1 + 1)) : Int).toNat)]) ?_ 1 _ rfl; (with_reducible repeat (first | refine blk_drewN ?_ _ | refine blk_drew ?_ | refine blk_alloc ?_ _)); refine blk_put (cs := #[.int .i64 (-1), .string (a0.extract (x6_1 : Int).toNat ((wrap64 (x6_1 + 1)) : Int).toNat)]) ?_ 0 _ rfl; (with_reducible repeat (first | refine blk_drewN ?_ _ | refine blk_drew ?_ | refine blk_alloc ?_ _)); refine blk_put (cs := #[.int .i64 (-1), .string (⟨#[]⟩ : ByteArray)]) ?_ 1 _ rfl; (with_reducible repeat (first | refine blk_drewN ?_ _ | refine blk_drew ?_ | refine blk_alloc ?_ _)); refine blk_put (cs := #[.int .i64 0, .string (⟨#[]⟩ : ByteArray)]) ?_ 0 _ rfl; (with_reducible repeat (first | refine blk_drewN ?_ _ | refine blk_drew ?_ | refine blk_alloc ?_ _)); exact BK173.out⟩, ⟨by repeat (first | (with_reducible first | exact HB.out | apply below_alloc | apply pw_below_drewN | apply below_drew1 | refine below_set ?_ GE173.out) | exact HB.out)⟩⟩
                    · rw [if_neg c15] at H
                      have c15b0 : ((bt a0 x6_1) == 38) = false := beq_eq_false_iff_ne.mpr c15
                      have c15b1 : ((bt a0 x6_1) != 38) = true := bne_iff_ne.mpr c15
                      (first | rw [c15b0] | (simp only [i64_w, i32_w]; rw [c15b0]) | skip)
                      have H' := Aside0.mk H
                      clear H
                      go_wp2
                      go_meet
                      case rel => exact ⟨_, ((-1)), (a0.extract (x6_1 : Int).toNat ((wrap64 (x6_1 + 1)) : Int).toNat), H', ⟨by have := HK1.out; first | omega | exact Nat.le_refl _⟩, ⟨by (with_reducible repeat (first | apply Kd.R_alloc | apply Kd.R_drewN | apply Kd.R_drew)); exact Kd.R_mono (Kd.R_far (p := ⟨gb173, 1, none⟩) (Kd.R_far (p := ⟨gb173, 0, none⟩) (Kd.R_mono HO_5.out (fun k_ hk => (⟨hk, hk.2⟩ : _ ∧ k_ ≠ gb173))) (fun _ hk => hk.2) (.int .i64 (-1))) (fun _ hk => hk.2) (.string (a0.extract (x6_1 : Int).toNat ((wrap64 (x6_1 + 1)) : Int).toNat))) (fun _ hk => hk.1.2)⟩, ⟨by (with_reducible repeat (first | refine blk_drewN ?_ _ | refine blk_drew ?_ | refine blk_alloc ?_ _)); refine blk_put (cs := #[.int .i64 (-1), .string (⟨#[]⟩ : ByteArray)]) ?_ 1 _ rfl; (with_reducible repeat (first | refine blk_drewN ?_ _ | refine blk_drew ?_ | refine blk_alloc ?_ _)); refine blk_put (cs := #[.int .i64 0, .string (⟨#[]⟩ : ByteArray)]) ?_ 0 _ rfl; (with_reducible repeat (first | refine blk_drewN ?_ _ | refine blk_drew ?_ | refine blk_alloc ?_ _)); exact BK173.out⟩, ⟨by repeat (first | (with_reducible first | exact HB.out | apply below_alloc | apply pw_below_drewN | apply below_drew1 | refine below_set ?_ GE173.out) | exact HB.out)⟩⟩
                  case rest =>
                    clear HC12
                    try clear c1
                    try clear p1
                    try clear q1
                    try clear hx1
                    try clear c2
                    try clear c2b0
                    try clear c2b1
                    try clear p2
                    try clear c3
                    try clear c3b0
                    try clear c4
                    try clear c4b0
                    try clear c4b1
                    try clear c5
                    try clear c5b0
                    try clear c5b1
                    try clear c6
                    try clear c6b0
                    try clear c6b1
                    try clear p6
                    try clear p7
                    try clear q7
                    try clear hx7
                    try clear c8
                    try clear c8b0
                    try clear c8b1
                    try clear p11
                    try clear q11
                    try clear hx11
                    try clear c15
                    try clear c15b0
                    try clear c15b1
                    try clear hcz10_0
                    try clear hcz10_1
                    try clear hcz14_0
                    try clear hcz14_1
                    try clear hcz16_0
                    try clear hcz16_1
                    try clear hfz10_0
                    try clear hfz10_1
                    try clear hfz14_0
                    try clear hfz14_1
                    try clear hfz16_0
                    try clear hfz16_1
                    try clear p11
                    try clear p2
                    try clear p7
                    try clear q11
                    try clear q7
                    obtain ⟨kq, x174000_11, x174001_11, HA, HJ11, HO_5, BK173, HB⟩ := hcut
                    cases kq with
                    | zero => exact absurd HA.out (by simp [runnelref13_DocParse.j1])
                    | succ kj11 =>
                      have H := HA.out
                      clear HA
                      simp only [runnelref13_DocParse.j1] at H
                      by_cases c17 : 0 ≤ x6_1
                      · rw [if_pos c17] at H
                        have c17b0 : decide (0 ≤ x6_1) = true := decide_eq_true c17
                        clear c17
                        by_cases c18 : x6_1 < (a0.size : Int)
                        · rw [if_pos c18] at H
                          have c18b0 : decide (x6_1 < (a0.size : Int)) = true := decide_eq_true c18
                          clear c18
                          by_cases c20 : (bt a0 x6_1) = 92
                          · rw [if_pos c20] at H
                            have c20b0 : ((bt a0 x6_1) == 92) = true := beq_iff_eq.mpr c20
                            have c20b1 : ((bt a0 x6_1) != 92) = false := bne_eq_false_iff_eq.mpr c20
                            clear c20
                            by_cases c21 : (wrap64 (x6_1 + 1)) = (a0.size : Int)
                            · rw [if_pos c21] at H
                              have c21b0 : ((wrap64 (x6_1 + 1)) == (a0.size : Int)) = true := beq_iff_eq.mpr c21
                              have c21b1 : ((wrap64 (x6_1 + 1)) != (a0.size : Int)) = false := bne_eq_false_iff_eq.mpr c21
                              clear c21
                              simp only [Option.some.injEq, Prod.mk.injEq] at H
                              obtain ⟨rfl, rfl, rfl⟩ := H
                              have p19 : 0 ≤ (x6_1 : Int) := of_decide_eq_true (by first | (with_reducible assumption) | assumption)
                              have q19 : x6_1 < (a0.size : Int) := of_decide_eq_true (by first | (with_reducible assumption) | assumption)
                              have hx19 := bt_at a0 x6_1
                              replace p19 := eq_true p19
                              replace q19 := eq_true q19
                              go_wp2
                              go_ret3
                              exact ⟨_, by first | rfl | (simp [errW_none, errW_some] <;> rfl) | (simp [*, errW_none, errW_some] <;> rfl), by first | exact Kd.R_nil _ _ _ _ _ | exact Kd.N_nil _ _ _ _ _ | exact Kd.V_nil _ _ _ _ _ | exact Kd.Q_nil _ _ _ _ _ | exact Kd.S_nil _ _ _ _ _, by repeat (first | (with_reducible first | exact HB.out | apply below_alloc | apply pw_below_drewN | apply below_drew1 | refine below_set ?_ GE173.out) | exact HB.out)⟩
                            · rw [if_neg c21] at H
                              have c21b0 : ((wrap64 (x6_1 + 1)) == (a0.size : Int)) = false := beq_eq_false_iff_ne.mpr c21
                              have c21b1 : ((wrap64 (x6_1 + 1)) != (a0.size : Int)) = true := bne_iff_ne.mpr c21
                              obtain ⟨ji22, hji22⟩ : ∃ j_ : Int, (wrap64 (x6_1 + 1)) = j_ := ⟨_, rfl⟩
                              replace H : (if 0 ≤ (ji22) then (if (ji22) ≤ (wrap64 ((ji22) + 1)) then (if (wrap64 ((ji22) + 1)) ≤ (a0.size : Int) then (if (ji22) < (a0.size : Int) then (if (bt a0 (ji22)) = 110 then (if (bt a0 (ji22)) ≥ 48 then (if (bt a0 (ji22)) ≤ 57 then ((runnelref13_laid.f x5_1 (((bt a0 (ji22)) - 48) % 256) (⟨#[]⟩ : ByteArray)).bind fun t174 => (runnelref13_DocParse.l0 kj11 a0 t174 (wrap64 ((ji22) + 1)))) else ((runnelref13_laid.f x5_1 x174000_11 (⟨#[10]⟩ : ByteArray)).bind fun t177 => (runnelref13_DocParse.l0 kj11 a0 t177 (wrap64 ((ji22) + 1))))) else ((runnelref13_laid.f x5_1 x174000_11 (⟨#[10]⟩ : ByteArray)).bind fun t180 => (runnelref13_DocParse.l0 kj11 a0 t180 (wrap64 ((ji22) + 1))))) else (if (bt a0 (ji22)) ≥ 48 then (if (bt a0 (ji22)) ≤ 57 then ((runnelref13_laid.f x5_1 (((bt a0 (ji22)) - 48) % 256) (⟨#[]⟩ : ByteArray)).bind fun t183 => (runnelref13_DocParse.l0 kj11 a0 t183 (wrap64 ((ji22) + 1)))) else ((runnelref13_laid.f x5_1 x174000_11 (a0.extract ((ji22) : Int).toNat ((wrap64 ((ji22) + 1)) : Int).toNat)).bind fun t186 => (runnelref13_DocParse.l0 kj11 a0 t186 (wrap64 ((ji22) + 1))))) else ((runnelref13_laid.f x5_1 x174000_11 (a0.extract ((ji22) : Int).toNat ((wrap64 ((ji22) + 1)) : Int).toNat)).bind fun t189 => (runnelref13_DocParse.l0 kj11 a0 t189 (wrap64 ((ji22) + 1)))))) else (none)) else (none)) else (none)) else (none)) = some (r1, r2, r3) := by first | (rw [hji22] at H; exact H) | (simp only [hji22] at H ⊢; exact H)
                              (try rw [hji22] at c5b0)
                              (try rw [hji22] at c5b1)
                              (try rw [hji22] at c5)
                              (try rw [hji22] at c6b0)
                              (try rw [hji22] at c6b1)
                              (try rw [hji22] at c6)
                              (try rw [hji22] at c21b0)
                              (try rw [hji22] at c21b1)
                              have hji22w : (IntKind.i64.wrap (x6_1 + 1)) = ji22 := (i64_w _).trans hji22
                              by_cases c23 : 0 ≤ (ji22)
                              · rw [if_pos c23] at H
                                have c23b0 := eq_true c23
                                have c23b1 : decide (0 ≤ (ji22)) = true := decide_eq_true c23
                                clear c23
                                by_cases c24 : (ji22) ≤ (wrap64 ((ji22) + 1))
                                · rw [if_pos c24] at H
                                  have c24b0 := eq_true c24
                                  have c24b1 : decide ((ji22) ≤ (wrap64 ((ji22) + 1))) = true := decide_eq_true c24
                                  by_cases c25 : (wrap64 ((ji22) + 1)) ≤ (a0.size : Int)
                                  · rw [if_pos c25] at H
                                    have c25b0 := eq_true c25
                                    have c25b1 : decide ((wrap64 ((ji22) + 1)) ≤ (a0.size : Int)) = true := decide_eq_true c25
                                    by_cases c26 : (ji22) < (a0.size : Int)
                                    · rw [if_pos c26] at H
                                      have c26b0 : decide ((ji22) < (a0.size : Int)) = true := decide_eq_true c26
                                      clear c26
                                      by_cases c28 : (bt a0 (ji22)) = 110
                                      · rw [if_pos c28] at H
                                        have c28b0 : ((bt a0 (ji22)) == 110) = true := beq_iff_eq.mpr c28
                                        have c28b1 : ((bt a0 (ji22)) != 110) = false := bne_eq_false_iff_eq.mpr c28
                                        clear c28
                                        by_cases c30 : (bt a0 (ji22)) ≥ 48
                                        · rw [if_pos c30] at H
                                          have c30b0 : decide (48 ≤ (bt a0 (ji22))) = true := decide_eq_true c30
                                          clear c30
                                          by_cases c32 : (bt a0 (ji22)) ≤ 57
                                          · rw [if_pos c32] at H
                                            have c32b0 : decide ((bt a0 (ji22)) ≤ 57) = true := decide_eq_true c32
                                            clear c32
                                            replace H := Option.bind_eq_some_iff.mp H
                                            obtain ⟨t174, A340, H⟩ := H
                                            replace H : (runnelref13_DocParse.l0 kj11 a0 t174 (wrap64 ((ji22) + 1))) = some (r1, r2, r3) := H
                                            have A34 := Aside0.mk A340
                                            clear A340
                                            have H' := Aside0.mk H
                                            clear H
                                            have p19 : 0 ≤ (x6_1 : Int) := of_decide_eq_true (by first | (with_reducible assumption) | assumption)
                                            have q19 : x6_1 < (a0.size : Int) := of_decide_eq_true (by first | (with_reducible assumption) | assumption)
                                            have hx19 := bt_at a0 x6_1
                                            replace p19 := eq_true p19
                                            replace q19 := eq_true q19
                                            have hcz35_0 : wc.cell? ⟨gb173, 0, none⟩ = some (.int .i64 x174000_11) := (blk_cell BK173.out 0).trans rfl
                                            have hcz35_1 : wc.cell? ⟨gb173, 1, none⟩ = some (.string x174001_11) := (blk_cell BK173.out 1).trans rfl
                                            have hfz35_0 := blk_frozen BK173.out 0
                                            have hfz35_1 := blk_frozen BK173.out 1
                                            go_wp2_with (first | ((with_reducible refine gate_store (t := 9) (p := 50) rfl ?_); refine store_event (t := 9) (p := 50) (v := ?vo_w36) (w1 := (wc.setCell ⟨gb173, 1, none⟩ (.string (a0.extract ((ji22) : Int).toNat ((wrap64 ((ji22) + 1)) : Int).toNat)))) ?hg ?ho ?hn ?hr ?_; (case ho => rfl); (case hg => rfl); (case hn => rfl); (case hr => first | (go_simp; done) | (go_simp; rfl)); intro w36 hw; have n0_ : Aside0 (Kd.R k117 117 w36 w.heap.size (fun k_ => k_ ≠ gb173) u5 x5_1) := ⟨(by rw [hw]; exact (by (with_reducible repeat (first | apply Kd.R_alloc | apply Kd.R_drewN | apply Kd.R_drew)); exact Kd.R_mono (Kd.R_far (p := ⟨gb173, 1, none⟩) (Kd.R_mono HO_5.out (fun k_ hk => (⟨hk, hk⟩ : _ ∧ k_ ≠ gb173))) (fun _ hk => hk.2) (.string (a0.extract ((ji22) : Int).toNat ((wrap64 ((ji22) + 1)) : Int).toNat))) (fun _ hk => hk.1)))⟩; have n1_ : Aside0 (w36.heap[gb173]? = some (.cells #[.int .i64 x174000_11, .string (a0.extract ((ji22) : Int).toNat ((wrap64 ((ji22) + 1)) : Int).toNat)] 117 (0, 0))) := ⟨(by rw [hw]; exact (by (with_reducible repeat (first | refine blk_drewN ?_ _ | refine blk_drew ?_ | refine blk_alloc ?_ _)); refine blk_put (cs := #[.int .i64 x174000_11, .string x174001_11]) ?_ 1 _ rfl; (with_reducible repeat (first | refine blk_drewN ?_ _ | refine blk_drew ?_ | refine blk_alloc ?_ _)); exact BK173.out))⟩; have n2_ : Aside0 (Below w.heap.size w w36) := ⟨(by rw [hw]; exact (by repeat (first | (with_reducible first | exact HB.out | apply below_alloc | apply pw_below_drewN | apply below_drew1 | refine below_set ?_ GE173.out) | exact HB.out)))⟩; clear hw; clear HO_5; clear BK173; clear HB; have HO_5 := n0_; have BK173 := n1_; have HB := n2_; clear n0_ n1_ n2_; have p27 : 0 ≤ ((ji22) : Int) := of_decide_eq_true (by first | (with_reducible assumption) | assumption); have q27 : (ji22) < (a0.size : Int) := of_decide_eq_true (by first | (with_reducible assumption) | assumption); have hx27 := bt_at a0 (ji22); replace p27 := eq_true p27; replace q27 := eq_true q27; have hcz37_0 : w36.cell? ⟨gb173, 0, none⟩ = some (.int .i64 x174000_11) := (blk_cell BK173.out 0).trans rfl; have hcz37_1 : w36.cell? ⟨gb173, 1, none⟩ = some (.string (a0.extract ((ji22) : Int).toNat ((wrap64 ((ji22) + 1)) : Int).toNat)) := (blk_cell BK173.out 1).trans rfl; have hfz37_0 := blk_frozen BK173.out 0; have hfz37_1 := blk_frozen BK173.out 1) | ((with_reducible refine gate_store (t := 9) (p := 55) rfl ?_); refine store_event (t := 9) (p := 55) (v := ?vo_w38) (w1 := (w36.setCell ⟨gb173, 1, none⟩ (.string (⟨#[10]⟩ : ByteArray)))) ?hg ?ho ?hn ?hr ?_; (case ho => rfl); (case hg => rfl); (case hn => rfl); (case hr => first | (go_simp; done) | (go_simp; rfl)); intro w38 hw; have n0_ : Aside0 (Kd.R k117 117 w38 w.heap.size (fun k_ => k_ ≠ gb173) u5 x5_1) := ⟨(by rw [hw]; exact (by (with_reducible repeat (first | apply Kd.R_alloc | apply Kd.R_drewN | apply Kd.R_drew)); exact Kd.R_mono (Kd.R_far (p := ⟨gb173, 1, none⟩) (Kd.R_mono HO_5.out (fun k_ hk => (⟨hk, hk⟩ : _ ∧ k_ ≠ gb173))) (fun _ hk => hk.2) (.string (⟨#[10]⟩ : ByteArray))) (fun _ hk => hk.1)))⟩; have n1_ : Aside0 (w38.heap[gb173]? = some (.cells #[.int .i64 x174000_11, .string (⟨#[10]⟩ : ByteArray)] 117 (0, 0))) := ⟨(by rw [hw]; exact (by (with_reducible repeat (first | refine blk_drewN ?_ _ | refine blk_drew ?_ | refine blk_alloc ?_ _)); refine blk_put (cs := #[.int .i64 x174000_11, .string (a0.extract ((ji22) : Int).toNat ((wrap64 ((ji22) + 1)) : Int).toNat)]) ?_ 1 _ rfl; (with_reducible repeat (first | refine blk_drewN ?_ _ | refine blk_drew ?_ | refine blk_alloc ?_ _)); exact BK173.out))⟩; have n2_ : Aside0 (Below w.heap.size w w38) := ⟨(by rw [hw]; exact (by repeat (first | (with_reducible first | exact HB.out | apply below_alloc | apply pw_below_drewN | apply below_drew1 | refine below_set ?_ GE173.out) | exact HB.out)))⟩; clear hw; clear HO_5; clear BK173; clear HB; have HO_5 := n0_; have BK173 := n1_; have HB := n2_; clear n0_ n1_ n2_; have p29 : 0 ≤ ((ji22) : Int) := of_decide_eq_true (by first | (with_reducible assumption) | assumption); have q29 : (ji22) < (a0.size : Int) := of_decide_eq_true (by first | (with_reducible assumption) | assumption); have hx29 := bt_at a0 (ji22); replace p29 := eq_true p29; replace q29 := eq_true q29; have p31 : 0 ≤ ((ji22) : Int) := of_decide_eq_true (by first | (with_reducible assumption) | assumption); have q31 : (ji22) < (a0.size : Int) := of_decide_eq_true (by first | (with_reducible assumption) | assumption); have hx31 := bt_at a0 (ji22); replace p31 := eq_true p31; replace q31 := eq_true q31; have p33 : 0 ≤ ((ji22) : Int) := of_decide_eq_true (by first | (with_reducible assumption) | assumption); have q33 : (ji22) < (a0.size : Int) := of_decide_eq_true (by first | (with_reducible assumption) | assumption); have hx33 := bt_at a0 (ji22); replace p33 := eq_true p33; replace q33 := eq_true q33; have hcz39_0 : w38.cell? ⟨gb173, 0, none⟩ = some (.int .i64 x174000_11) := (blk_cell BK173.out 0).trans rfl; have hcz39_1 : w38.cell? ⟨gb173, 1, none⟩ = some (.string (⟨#[10]⟩ : ByteArray)) := (blk_cell BK173.out 1).trans rfl; have hfz39_0 := blk_frozen BK173.out 0; have hfz39_1 := blk_frozen BK173.out 1) | ((with_reducible refine gate_store (t := 117) (p := 7) rfl ?_); refine store_event (t := 117) (p := 7) (v := ?vo_w40) (w1 := ((w38.setCell ⟨gb173, 0, none⟩ (.int .i64 (((bt a0 (ji22)) - 48) % 256))).setCell ⟨gb173, 1, none⟩ (.string (⟨#[]⟩ : ByteArray)))) ?hg ?ho ?hn ?hr ?_; (case ho => rfl); (case hg => rfl); (case hn => rfl); (case hr => first | (go_simp; done) | (go_simp; rfl)); intro w40 hw; have n0_ : Aside0 (Kd.R k117 117 w40 w.heap.size (fun k_ => k_ ≠ gb173) u5 x5_1) := ⟨(by rw [hw]; exact (by (with_reducible repeat (first | apply Kd.R_alloc | apply Kd.R_drewN | apply Kd.R_drew)); exact Kd.R_mono (Kd.R_far (p := ⟨gb173, 1, none⟩) (Kd.R_far (p := ⟨gb173, 0, none⟩) (Kd.R_mono HO_5.out (fun k_ hk => (⟨hk, hk⟩ : _ ∧ k_ ≠ gb173))) (fun _ hk => hk.2) (.int .i64 (((bt a0 (ji22)) - 48) % 256))) (fun _ hk => hk.2) (.string (⟨#[]⟩ : ByteArray))) (fun _ hk => hk.1)))⟩; have n1_ : Aside0 (w40.heap[gb173]? = some (.cells #[.int .i64 (((bt a0 (ji22)) - 48) % 256), .string (⟨#[]⟩ : ByteArray)] 117 (0, 0))) := ⟨(by rw [hw]; exact (by (with_reducible repeat (first | refine blk_drewN ?_ _ | refine blk_drew ?_ | refine blk_alloc ?_ _)); refine blk_put (cs := #[.int .i64 (((bt a0 (ji22)) - 48) % 256), .string (⟨#[10]⟩ : ByteArray)]) ?_ 1 _ rfl; (with_reducible repeat (first | refine blk_drewN ?_ _ | refine blk_drew ?_ | refine blk_alloc ?_ _)); refine blk_put (cs := #[.int .i64 x174000_11, .string (⟨#[10]⟩ : ByteArray)]) ?_ 0 _ rfl; (with_reducible repeat (first | refine blk_drewN ?_ _ | refine blk_drew ?_ | refine blk_alloc ?_ _)); exact BK173.out))⟩; have n2_ : Aside0 (Below w.heap.size w w40) := ⟨(by rw [hw]; exact (by repeat (first | (with_reducible first | exact HB.out | apply below_alloc | apply pw_below_drewN | apply below_drew1 | refine below_set ?_ GE173.out) | exact HB.out)))⟩; clear hw; clear HO_5; clear BK173; clear HB; have HO_5 := n0_; have BK173 := n1_; have HB := n2_; clear n0_ n1_ n2_; have hcz41_0 : w40.cell? ⟨gb173, 0, none⟩ = some (.int .i64 (((bt a0 (ji22)) - 48) % 256)) := (blk_cell BK173.out 0).trans rfl; have hcz41_1 : w40.cell? ⟨gb173, 1, none⟩ = some (.string (⟨#[]⟩ : ByteArray)) := (blk_cell BK173.out 1).trans rfl; have hfz41_0 := blk_frozen BK173.out 0; have hfz41_1 := blk_frozen BK173.out 1; obtain ⟨Ao42, co42, eo42⟩ := Kd.R_slice HO_5.out; subst eo42) | ((with_reducible refine gate_callee (f := 60) rfl ?_); refine goesL_ (some 74) rfl rfl Try.func60 (by kernel_rfl) rfl #[.slice Ao42 x5_1.length co42, .agg #[.int .i64 (((bt a0 (ji22)) - 48) % 256), .string (⟨#[]⟩ : ByteArray)]] rfl (by (try simp only [List.map_toArray, List.map_cons, List.map_nil]); first | done | (simp only [hji22]; rfl) | rfl | (simp only [List.length_drop, List.length_take]; rfl)) ?_; (with_reducible refine (runnelref13_laid.calls (fun k_ => some k_ = (.slice Ao42 x5_1.length co42 : Value).ownBlock) (.slice Ao42 x5_1.length co42) x5_1 (((bt a0 (ji22)) - 48) % 256) (⟨#[]⟩ : ByteArray) t174 w _ ?side1 ?side2 A34.out).mono ?_); (case side1 => repeat (first | (with_reducible first | exact HB.out | apply below_alloc | apply pw_below_drewN | apply below_drew1 | refine below_set ?_ GE173.out) | exact HB.out)); (case side2 => exact Kd.R_tight rfl HO_5.out); rintro e w43 ⟨v175, rfl, ho0, hb, hkp⟩; refine ⟨_, rfl, ?_⟩; have n0_ := Aside0.mk (blk_kept (by (with_reducible repeat (first | refine blk_drewN ?_ _ | refine blk_drew ?_ | refine blk_alloc ?_ _)); exact BK173.out) hkp (fun hs_ => (fun e_ => (Kd.R_away HO_5.out (fun _ hk => hk)) e_) hs_)); have n1_ := Aside0.mk (Kd.R_mono (ok' := fun k_ => k_ ≠ gb173) ho0 (fun k_ hk_ => Or.elim hk_ (fun hs_ => fun e_ => (Kd.R_away HO_5.out (fun _ hk => hk)) (by rw [← e_]; exact hs_)) (fun hn_ => (Kd.freshB (g := gb173) (o := .cells #[.int .i64 (((bt a0 (ji22)) - 48) % 256), .string (⟨#[]⟩ : ByteArray)] 117 (0, 0)) (by (with_reducible repeat (first | refine blk_drewN ?_ _ | refine blk_drew ?_ | refine blk_alloc ?_ _)); exact BK173.out) k_ hn_)))); have n2_ := Aside0.mk (hb); clear BK173; clear HB; clear HO_5; have BK173 := n0_; have HO176 := n1_; have HB := n2_; clear n0_ n1_ n2_; (try clear hb); (try clear hkp); (try clear ho0)))
                                            go_roundg kj11
                                            case measure => have := HK1.out; have := HJ11.out; omega
                                            case rel => exact ⟨(t174), (wrap64 ((ji22) + 1)), (by first | rfl | (simp; done) | (simp only [← hji22] <;> (first | rfl | simp)) | (simp [*]; done)), (by first | exact H' | (simp only [hji22]; exact H')), ⟨by have := HK1.out; have := HJ11.out; omega⟩, ⟨by (with_reducible repeat (first | apply Kd.R_alloc | apply Kd.R_drewN | apply Kd.R_drew)); exact Kd.R_mono HO176.out (fun _ hk => trivial)⟩, ⟨by repeat (first | (with_reducible first | exact HB.out | apply below_alloc | apply pw_below_drewN | apply below_drew1 | refine below_set ?_ GE173.out) | exact HB.out)⟩⟩
                                          · rw [if_neg c32] at H
                                            have c32b0 : decide ((bt a0 (ji22)) ≤ 57) = false := decide_eq_false c32
                                            clear c32
                                            replace H := Option.bind_eq_some_iff.mp H
                                            obtain ⟨t177, A440, H⟩ := H
                                            replace H : (runnelref13_DocParse.l0 kj11 a0 t177 (wrap64 ((ji22) + 1))) = some (r1, r2, r3) := H
                                            have A44 := Aside0.mk A440
                                            clear A440
                                            have H' := Aside0.mk H
                                            clear H
                                            have p19 : 0 ≤ (x6_1 : Int) := of_decide_eq_true (by first | (with_reducible assumption) | assumption)
                                            have q19 : x6_1 < (a0.size : Int) := of_decide_eq_true (by first | (with_reducible assumption) | assumption)
                                            have hx19 := bt_at a0 x6_1
                                            replace p19 := eq_true p19
                                            replace q19 := eq_true q19
                                            have hcz45_0 : wc.cell? ⟨gb173, 0, none⟩ = some (.int .i64 x174000_11) := (blk_cell BK173.out 0).trans rfl
                                            have hcz45_1 : wc.cell? ⟨gb173, 1, none⟩ = some (.string x174001_11) := (blk_cell BK173.out 1).trans rfl
                                            have hfz45_0 := blk_frozen BK173.out 0
                                            have hfz45_1 := blk_frozen BK173.out 1
                                            go_wp2_with (first | ((with_reducible refine gate_store (t := 9) (p := 50) rfl ?_); refine store_event (t := 9) (p := 50) (v := ?vo_w46) (w1 := (wc.setCell ⟨gb173, 1, none⟩ (.string (a0.extract ((ji22) : Int).toNat ((wrap64 ((ji22) + 1)) : Int).toNat)))) ?hg ?ho ?hn ?hr ?_; (case ho => rfl); (case hg => rfl); (case hn => rfl); (case hr => first | (go_simp; done) | (go_simp; rfl)); intro w46 hw; have n0_ : Aside0 (Kd.R k117 117 w46 w.heap.size (fun k_ => k_ ≠ gb173) u5 x5_1) := ⟨(by rw [hw]; exact (by (with_reducible repeat (first | apply Kd.R_alloc | apply Kd.R_drewN | apply Kd.R_drew)); exact Kd.R_mono (Kd.R_far (p := ⟨gb173, 1, none⟩) (Kd.R_mono HO_5.out (fun k_ hk => (⟨hk, hk⟩ : _ ∧ k_ ≠ gb173))) (fun _ hk => hk.2) (.string (a0.extract ((ji22) : Int).toNat ((wrap64 ((ji22) + 1)) : Int).toNat))) (fun _ hk => hk.1)))⟩; have n1_ : Aside0 (w46.heap[gb173]? = some (.cells #[.int .i64 x174000_11, .string (a0.extract ((ji22) : Int).toNat ((wrap64 ((ji22) + 1)) : Int).toNat)] 117 (0, 0))) := ⟨(by rw [hw]; exact (by (with_reducible repeat (first | refine blk_drewN ?_ _ | refine blk_drew ?_ | refine blk_alloc ?_ _)); refine blk_put (cs := #[.int .i64 x174000_11, .string x174001_11]) ?_ 1 _ rfl; (with_reducible repeat (first | refine blk_drewN ?_ _ | refine blk_drew ?_ | refine blk_alloc ?_ _)); exact BK173.out))⟩; have n2_ : Aside0 (Below w.heap.size w w46) := ⟨(by rw [hw]; exact (by repeat (first | (with_reducible first | exact HB.out | apply below_alloc | apply pw_below_drewN | apply below_drew1 | refine below_set ?_ GE173.out) | exact HB.out)))⟩; clear hw; clear HO_5; clear BK173; clear HB; have HO_5 := n0_; have BK173 := n1_; have HB := n2_; clear n0_ n1_ n2_; have p27 : 0 ≤ ((ji22) : Int) := of_decide_eq_true (by first | (with_reducible assumption) | assumption); have q27 : (ji22) < (a0.size : Int) := of_decide_eq_true (by first | (with_reducible assumption) | assumption); have hx27 := bt_at a0 (ji22); replace p27 := eq_true p27; replace q27 := eq_true q27; have hcz47_0 : w46.cell? ⟨gb173, 0, none⟩ = some (.int .i64 x174000_11) := (blk_cell BK173.out 0).trans rfl; have hcz47_1 : w46.cell? ⟨gb173, 1, none⟩ = some (.string (a0.extract ((ji22) : Int).toNat ((wrap64 ((ji22) + 1)) : Int).toNat)) := (blk_cell BK173.out 1).trans rfl; have hfz47_0 := blk_frozen BK173.out 0; have hfz47_1 := blk_frozen BK173.out 1) | ((with_reducible refine gate_store (t := 9) (p := 55) rfl ?_); refine store_event (t := 9) (p := 55) (v := ?vo_w48) (w1 := (w46.setCell ⟨gb173, 1, none⟩ (.string (⟨#[10]⟩ : ByteArray)))) ?hg ?ho ?hn ?hr ?_; (case ho => rfl); (case hg => rfl); (case hn => rfl); (case hr => first | (go_simp; done) | (go_simp; rfl)); intro w48 hw; have n0_ : Aside0 (Kd.R k117 117 w48 w.heap.size (fun k_ => k_ ≠ gb173) u5 x5_1) := ⟨(by rw [hw]; exact (by (with_reducible repeat (first | apply Kd.R_alloc | apply Kd.R_drewN | apply Kd.R_drew)); exact Kd.R_mono (Kd.R_far (p := ⟨gb173, 1, none⟩) (Kd.R_mono HO_5.out (fun k_ hk => (⟨hk, hk⟩ : _ ∧ k_ ≠ gb173))) (fun _ hk => hk.2) (.string (⟨#[10]⟩ : ByteArray))) (fun _ hk => hk.1)))⟩; have n1_ : Aside0 (w48.heap[gb173]? = some (.cells #[.int .i64 x174000_11, .string (⟨#[10]⟩ : ByteArray)] 117 (0, 0))) := ⟨(by rw [hw]; exact (by (with_reducible repeat (first | refine blk_drewN ?_ _ | refine blk_drew ?_ | refine blk_alloc ?_ _)); refine blk_put (cs := #[.int .i64 x174000_11, .string (a0.extract ((ji22) : Int).toNat ((wrap64 ((ji22) + 1)) : Int).toNat)]) ?_ 1 _ rfl; (with_reducible repeat (first | refine blk_drewN ?_ _ | refine blk_drew ?_ | refine blk_alloc ?_ _)); exact BK173.out))⟩; have n2_ : Aside0 (Below w.heap.size w w48) := ⟨(by rw [hw]; exact (by repeat (first | (with_reducible first | exact HB.out | apply below_alloc | apply pw_below_drewN | apply below_drew1 | refine below_set ?_ GE173.out) | exact HB.out)))⟩; clear hw; clear HO_5; clear BK173; clear HB; have HO_5 := n0_; have BK173 := n1_; have HB := n2_; clear n0_ n1_ n2_; have p29 : 0 ≤ ((ji22) : Int) := of_decide_eq_true (by first | (with_reducible assumption) | assumption); have q29 : (ji22) < (a0.size : Int) := of_decide_eq_true (by first | (with_reducible assumption) | assumption); have hx29 := bt_at a0 (ji22); replace p29 := eq_true p29; replace q29 := eq_true q29; have p31 : 0 ≤ ((ji22) : Int) := of_decide_eq_true (by first | (with_reducible assumption) | assumption); have q31 : (ji22) < (a0.size : Int) := of_decide_eq_true (by first | (with_reducible assumption) | assumption); have hx31 := bt_at a0 (ji22); replace p31 := eq_true p31; replace q31 := eq_true q31; have hcz49_0 : w48.cell? ⟨gb173, 0, none⟩ = some (.int .i64 x174000_11) := (blk_cell BK173.out 0).trans rfl; have hcz49_1 : w48.cell? ⟨gb173, 1, none⟩ = some (.string (⟨#[10]⟩ : ByteArray)) := (blk_cell BK173.out 1).trans rfl; have hfz49_0 := blk_frozen BK173.out 0; have hfz49_1 := blk_frozen BK173.out 1; obtain ⟨Ao50, co50, eo50⟩ := Kd.R_slice HO_5.out; subst eo50) | ((with_reducible refine gate_callee (f := 60) rfl ?_); refine goesL_ (some 74) rfl rfl Try.func60 (by kernel_rfl) rfl #[.slice Ao50 x5_1.length co50, .agg #[.int .i64 x174000_11, .string (⟨#[10]⟩ : ByteArray)]] rfl (by (try simp only [List.map_toArray, List.map_cons, List.map_nil]); first | done | rfl | (simp only [List.length_drop, List.length_take]; rfl)) ?_; (with_reducible refine (runnelref13_laid.calls (fun k_ => some k_ = (.slice Ao50 x5_1.length co50 : Value).ownBlock) (.slice Ao50 x5_1.length co50) x5_1 x174000_11 (⟨#[10]⟩ : ByteArray) t177 w _ ?side1 ?side2 A44.out).mono ?_); (case side1 => repeat (first | (with_reducible first | exact HB.out | apply below_alloc | apply pw_below_drewN | apply below_drew1 | refine below_set ?_ GE173.out) | exact HB.out)); (case side2 => exact Kd.R_tight rfl HO_5.out); rintro e w51 ⟨v178, rfl, ho0, hb, hkp⟩; refine ⟨_, rfl, ?_⟩; have n0_ := Aside0.mk (blk_kept (by (with_reducible repeat (first | refine blk_drewN ?_ _ | refine blk_drew ?_ | refine blk_alloc ?_ _)); exact BK173.out) hkp (fun hs_ => (fun e_ => (Kd.R_away HO_5.out (fun _ hk => hk)) e_) hs_)); have n1_ := Aside0.mk (Kd.R_mono (ok' := fun k_ => k_ ≠ gb173) ho0 (fun k_ hk_ => Or.elim hk_ (fun hs_ => fun e_ => (Kd.R_away HO_5.out (fun _ hk => hk)) (by rw [← e_]; exact hs_)) (fun hn_ => (Kd.freshB (g := gb173) (o := .cells #[.int .i64 x174000_11, .string (⟨#[10]⟩ : ByteArray)] 117 (0, 0)) (by (with_reducible repeat (first | refine blk_drewN ?_ _ | refine blk_drew ?_ | refine blk_alloc ?_ _)); exact BK173.out) k_ hn_)))); have n2_ := Aside0.mk (hb); clear BK173; clear HB; clear HO_5; have BK173 := n0_; have HO179 := n1_; have HB := n2_; clear n0_ n1_ n2_; (try clear hb); (try clear hkp); (try clear ho0)))
                                            go_roundg kj11
                                            case measure => have := HK1.out; have := HJ11.out; omega
                                            case rel => exact ⟨(t177), (wrap64 ((ji22) + 1)), (by first | rfl | (simp; done) | (simp only [← hji22] <;> (first | rfl | simp)) | (simp [*]; done)), (by first | exact H' | (simp only [hji22]; exact H')), ⟨by have := HK1.out; have := HJ11.out; omega⟩, ⟨by (with_reducible repeat (first | apply Kd.R_alloc | apply Kd.R_drewN | apply Kd.R_drew)); exact Kd.R_mono HO179.out (fun _ hk => trivial)⟩, ⟨by repeat (first | (with_reducible first | exact HB.out | apply below_alloc | apply pw_below_drewN | apply below_drew1 | refine below_set ?_ GE173.out) | exact HB.out)⟩⟩
                                        · rw [if_neg c30] at H
                                          have c30b0 : decide (48 ≤ (bt a0 (ji22))) = false := decide_eq_false c30
                                          clear c30
                                          replace H := Option.bind_eq_some_iff.mp H
                                          obtain ⟨t180, A520, H⟩ := H
                                          replace H : (runnelref13_DocParse.l0 kj11 a0 t180 (wrap64 ((ji22) + 1))) = some (r1, r2, r3) := H
                                          have A52 := Aside0.mk A520
                                          clear A520
                                          have H' := Aside0.mk H
                                          clear H
                                          have p19 : 0 ≤ (x6_1 : Int) := of_decide_eq_true (by first | (with_reducible assumption) | assumption)
                                          have q19 : x6_1 < (a0.size : Int) := of_decide_eq_true (by first | (with_reducible assumption) | assumption)
                                          have hx19 := bt_at a0 x6_1
                                          replace p19 := eq_true p19
                                          replace q19 := eq_true q19
                                          have hcz53_0 : wc.cell? ⟨gb173, 0, none⟩ = some (.int .i64 x174000_11) := (blk_cell BK173.out 0).trans rfl
                                          have hcz53_1 : wc.cell? ⟨gb173, 1, none⟩ = some (.string x174001_11) := (blk_cell BK173.out 1).trans rfl
                                          have hfz53_0 := blk_frozen BK173.out 0
                                          have hfz53_1 := blk_frozen BK173.out 1
                                          go_wp2_with (first | ((with_reducible refine gate_store (t := 9) (p := 50) rfl ?_); refine store_event (t := 9) (p := 50) (v := ?vo_w54) (w1 := (wc.setCell ⟨gb173, 1, none⟩ (.string (a0.extract ((ji22) : Int).toNat ((wrap64 ((ji22) + 1)) : Int).toNat)))) ?hg ?ho ?hn ?hr ?_; (case ho => rfl); (case hg => rfl); (case hn => rfl); (case hr => first | (go_simp; done) | (go_simp; rfl)); intro w54 hw; have n0_ : Aside0 (Kd.R k117 117 w54 w.heap.size (fun k_ => k_ ≠ gb173) u5 x5_1) := ⟨(by rw [hw]; exact (by (with_reducible repeat (first | apply Kd.R_alloc | apply Kd.R_drewN | apply Kd.R_drew)); exact Kd.R_mono (Kd.R_far (p := ⟨gb173, 1, none⟩) (Kd.R_mono HO_5.out (fun k_ hk => (⟨hk, hk⟩ : _ ∧ k_ ≠ gb173))) (fun _ hk => hk.2) (.string (a0.extract ((ji22) : Int).toNat ((wrap64 ((ji22) + 1)) : Int).toNat))) (fun _ hk => hk.1)))⟩; have n1_ : Aside0 (w54.heap[gb173]? = some (.cells #[.int .i64 x174000_11, .string (a0.extract ((ji22) : Int).toNat ((wrap64 ((ji22) + 1)) : Int).toNat)] 117 (0, 0))) := ⟨(by rw [hw]; exact (by (with_reducible repeat (first | refine blk_drewN ?_ _ | refine blk_drew ?_ | refine blk_alloc ?_ _)); refine blk_put (cs := #[.int .i64 x174000_11, .string x174001_11]) ?_ 1 _ rfl; (with_reducible repeat (first | refine blk_drewN ?_ _ | refine blk_drew ?_ | refine blk_alloc ?_ _)); exact BK173.out))⟩; have n2_ : Aside0 (Below w.heap.size w w54) := ⟨(by rw [hw]; exact (by repeat (first | (with_reducible first | exact HB.out | apply below_alloc | apply pw_below_drewN | apply below_drew1 | refine below_set ?_ GE173.out) | exact HB.out)))⟩; clear hw; clear HO_5; clear BK173; clear HB; have HO_5 := n0_; have BK173 := n1_; have HB := n2_; clear n0_ n1_ n2_; have p27 : 0 ≤ ((ji22) : Int) := of_decide_eq_true (by first | (with_reducible assumption) | assumption); have q27 : (ji22) < (a0.size : Int) := of_decide_eq_true (by first | (with_reducible assumption) | assumption); have hx27 := bt_at a0 (ji22); replace p27 := eq_true p27; replace q27 := eq_true q27; have hcz55_0 : w54.cell? ⟨gb173, 0, none⟩ = some (.int .i64 x174000_11) := (blk_cell BK173.out 0).trans rfl; have hcz55_1 : w54.cell? ⟨gb173, 1, none⟩ = some (.string (a0.extract ((ji22) : Int).toNat ((wrap64 ((ji22) + 1)) : Int).toNat)) := (blk_cell BK173.out 1).trans rfl; have hfz55_0 := blk_frozen BK173.out 0; have hfz55_1 := blk_frozen BK173.out 1) | ((with_reducible refine gate_store (t := 9) (p := 55) rfl ?_); refine store_event (t := 9) (p := 55) (v := ?vo_w56) (w1 := (w54.setCell ⟨gb173, 1, none⟩ (.string (⟨#[10]⟩ : ByteArray)))) ?hg ?ho ?hn ?hr ?_; (case ho => rfl); (case hg => rfl); (case hn => rfl); (case hr => first | (go_simp; done) | (go_simp; rfl)); intro w56 hw; have n0_ : Aside0 (Kd.R k117 117 w56 w.heap.size (fun k_ => k_ ≠ gb173) u5 x5_1) := ⟨(by rw [hw]; exact (by (with_reducible repeat (first | apply Kd.R_alloc | apply Kd.R_drewN | apply Kd.R_drew)); exact Kd.R_mono (Kd.R_far (p := ⟨gb173, 1, none⟩) (Kd.R_mono HO_5.out (fun k_ hk => (⟨hk, hk⟩ : _ ∧ k_ ≠ gb173))) (fun _ hk => hk.2) (.string (⟨#[10]⟩ : ByteArray))) (fun _ hk => hk.1)))⟩; have n1_ : Aside0 (w56.heap[gb173]? = some (.cells #[.int .i64 x174000_11, .string (⟨#[10]⟩ : ByteArray)] 117 (0, 0))) := ⟨(by rw [hw]; exact (by (with_reducible repeat (first | refine blk_drewN ?_ _ | refine blk_drew ?_ | refine blk_alloc ?_ _)); refine blk_put (cs := #[.int .i64 x174000_11, .string (a0.extract ((ji22) : Int).toNat ((wrap64 ((ji22) + 1)) : Int).toNat)]) ?_ 1 _ rfl; (with_reducible repeat (first | refine blk_drewN ?_ _ | refine blk_drew ?_ | refine blk_alloc ?_ _)); exact BK173.out))⟩; have n2_ : Aside0 (Below w.heap.size w w56) := ⟨(by rw [hw]; exact (by repeat (first | (with_reducible first | exact HB.out | apply below_alloc | apply pw_below_drewN | apply below_drew1 | refine below_set ?_ GE173.out) | exact HB.out)))⟩; clear hw; clear HO_5; clear BK173; clear HB; have HO_5 := n0_; have BK173 := n1_; have HB := n2_; clear n0_ n1_ n2_; have p29 : 0 ≤ ((ji22) : Int) := of_decide_eq_true (by first | (with_reducible assumption) | assumption); have q29 : (ji22) < (a0.size : Int) := of_decide_eq_true (by first | (with_reducible assumption) | assumption); have hx29 := bt_at a0 (ji22); replace p29 := eq_true p29; replace q29 := eq_true q29; have hcz57_0 : w56.cell? ⟨gb173, 0, none⟩ = some (.int .i64 x174000_11) := (blk_cell BK173.out 0).trans rfl; have hcz57_1 : w56.cell? ⟨gb173, 1, none⟩ = some (.string (⟨#[10]⟩ : ByteArray)) := (blk_cell BK173.out 1).trans rfl; have hfz57_0 := blk_frozen BK173.out 0; have hfz57_1 := blk_frozen BK173.out 1; obtain ⟨Ao58, co58, eo58⟩ := Kd.R_slice HO_5.out; subst eo58) | ((with_reducible refine gate_callee (f := 60) rfl ?_); refine goesL_ (some 74) rfl rfl Try.func60 (by kernel_rfl) rfl #[.slice Ao58 x5_1.length co58, .agg #[.int .i64 x174000_11, .string (⟨#[10]⟩ : ByteArray)]] rfl (by (try simp only [List.map_toArray, List.map_cons, List.map_nil]); first | done | rfl | (simp only [List.length_drop, List.length_take]; rfl)) ?_; (with_reducible refine (runnelref13_laid.calls (fun k_ => some k_ = (.slice Ao58 x5_1.length co58 : Value).ownBlock) (.slice Ao58 x5_1.length co58) x5_1 x174000_11 (⟨#[10]⟩ : ByteArray) t180 w _ ?side1 ?side2 A52.out).mono ?_); (case side1 => repeat (first | (with_reducible first | exact HB.out | apply below_alloc | apply pw_below_drewN | apply below_drew1 | refine below_set ?_ GE173.out) | exact HB.out)); (case side2 => exact Kd.R_tight rfl HO_5.out); rintro e w59 ⟨v181, rfl, ho0, hb, hkp⟩; refine ⟨_, rfl, ?_⟩; have n0_ := Aside0.mk (blk_kept (by (with_reducible repeat (first | refine blk_drewN ?_ _ | refine blk_drew ?_ | refine blk_alloc ?_ _)); exact BK173.out) hkp (fun hs_ => (fun e_ => (Kd.R_away HO_5.out (fun _ hk => hk)) e_) hs_)); have n1_ := Aside0.mk (Kd.R_mono (ok' := fun k_ => k_ ≠ gb173) ho0 (fun k_ hk_ => Or.elim hk_ (fun hs_ => fun e_ => (Kd.R_away HO_5.out (fun _ hk => hk)) (by rw [← e_]; exact hs_)) (fun hn_ => (Kd.freshB (g := gb173) (o := .cells #[.int .i64 x174000_11, .string (⟨#[10]⟩ : ByteArray)] 117 (0, 0)) (by (with_reducible repeat (first | refine blk_drewN ?_ _ | refine blk_drew ?_ | refine blk_alloc ?_ _)); exact BK173.out) k_ hn_)))); have n2_ := Aside0.mk (hb); clear BK173; clear HB; clear HO_5; have BK173 := n0_; have HO182 := n1_; have HB := n2_; clear n0_ n1_ n2_; (try clear hb); (try clear hkp); (try clear ho0)))
                                          go_roundg kj11
                                          case measure => have := HK1.out; have := HJ11.out; omega
                                          case rel => exact ⟨(t180), (wrap64 ((ji22) + 1)), (by first | rfl | (simp; done) | (simp only [← hji22] <;> (first | rfl | simp)) | (simp [*]; done)), (by first | exact H' | (simp only [hji22]; exact H')), ⟨by have := HK1.out; have := HJ11.out; omega⟩, ⟨by (with_reducible repeat (first | apply Kd.R_alloc | apply Kd.R_drewN | apply Kd.R_drew)); exact Kd.R_mono HO182.out (fun _ hk => trivial)⟩, ⟨by repeat (first | (with_reducible first | exact HB.out | apply below_alloc | apply pw_below_drewN | apply below_drew1 | refine below_set ?_ GE173.out) | exact HB.out)⟩⟩
                                      · rw [if_neg c28] at H
                                        have c28b0 : ((bt a0 (ji22)) == 110) = false := beq_eq_false_iff_ne.mpr c28
                                        have c28b1 : ((bt a0 (ji22)) != 110) = true := bne_iff_ne.mpr c28
                                        by_cases c61 : (bt a0 (ji22)) ≥ 48
                                        · rw [if_pos c61] at H
                                          have c61b0 : decide (48 ≤ (bt a0 (ji22))) = true := decide_eq_true c61
                                          clear c61
                                          by_cases c63 : (bt a0 (ji22)) ≤ 57
                                          · rw [if_pos c63] at H
                                            have c63b0 : decide ((bt a0 (ji22)) ≤ 57) = true := decide_eq_true c63
                                            clear c63
                                            replace H := Option.bind_eq_some_iff.mp H
                                            obtain ⟨t183, A650, H⟩ := H
                                            replace H : (runnelref13_DocParse.l0 kj11 a0 t183 (wrap64 ((ji22) + 1))) = some (r1, r2, r3) := H
                                            have A65 := Aside0.mk A650
                                            clear A650
                                            have H' := Aside0.mk H
                                            clear H
                                            have p19 : 0 ≤ (x6_1 : Int) := of_decide_eq_true (by first | (with_reducible assumption) | assumption)
                                            have q19 : x6_1 < (a0.size : Int) := of_decide_eq_true (by first | (with_reducible assumption) | assumption)
                                            have hx19 := bt_at a0 x6_1
                                            replace p19 := eq_true p19
                                            replace q19 := eq_true q19
                                            have hcz66_0 : wc.cell? ⟨gb173, 0, none⟩ = some (.int .i64 x174000_11) := (blk_cell BK173.out 0).trans rfl
                                            have hcz66_1 : wc.cell? ⟨gb173, 1, none⟩ = some (.string x174001_11) := (blk_cell BK173.out 1).trans rfl
                                            have hfz66_0 := blk_frozen BK173.out 0
                                            have hfz66_1 := blk_frozen BK173.out 1
                                            go_wp2_with (first | ((with_reducible refine gate_store (t := 9) (p := 50) rfl ?_); refine store_event (t := 9) (p := 50) (v := ?vo_w67) (w1 := (wc.setCell ⟨gb173, 1, none⟩ (.string (a0.extract ((ji22) : Int).toNat ((wrap64 ((ji22) + 1)) : Int).toNat)))) ?hg ?ho ?hn ?hr ?_; (case ho => rfl); (case hg => rfl); (case hn => rfl); (case hr => first | (go_simp; done) | (go_simp; rfl)); intro w67 hw; have n0_ : Aside0 (Kd.R k117 117 w67 w.heap.size (fun k_ => k_ ≠ gb173) u5 x5_1) := ⟨(by rw [hw]; exact (by (with_reducible repeat (first | apply Kd.R_alloc | apply Kd.R_drewN | apply Kd.R_drew)); exact Kd.R_mono (Kd.R_far (p := ⟨gb173, 1, none⟩) (Kd.R_mono HO_5.out (fun k_ hk => (⟨hk, hk⟩ : _ ∧ k_ ≠ gb173))) (fun _ hk => hk.2) (.string (a0.extract ((ji22) : Int).toNat ((wrap64 ((ji22) + 1)) : Int).toNat))) (fun _ hk => hk.1)))⟩; have n1_ : Aside0 (w67.heap[gb173]? = some (.cells #[.int .i64 x174000_11, .string (a0.extract ((ji22) : Int).toNat ((wrap64 ((ji22) + 1)) : Int).toNat)] 117 (0, 0))) := ⟨(by rw [hw]; exact (by (with_reducible repeat (first | refine blk_drewN ?_ _ | refine blk_drew ?_ | refine blk_alloc ?_ _)); refine blk_put (cs := #[.int .i64 x174000_11, .string x174001_11]) ?_ 1 _ rfl; (with_reducible repeat (first | refine blk_drewN ?_ _ | refine blk_drew ?_ | refine blk_alloc ?_ _)); exact BK173.out))⟩; have n2_ : Aside0 (Below w.heap.size w w67) := ⟨(by rw [hw]; exact (by repeat (first | (with_reducible first | exact HB.out | apply below_alloc | apply pw_below_drewN | apply below_drew1 | refine below_set ?_ GE173.out) | exact HB.out)))⟩; clear hw; clear HO_5; clear BK173; clear HB; have HO_5 := n0_; have BK173 := n1_; have HB := n2_; clear n0_ n1_ n2_; have p27 : 0 ≤ ((ji22) : Int) := of_decide_eq_true (by first | (with_reducible assumption) | assumption); have q27 : (ji22) < (a0.size : Int) := of_decide_eq_true (by first | (with_reducible assumption) | assumption); have hx27 := bt_at a0 (ji22); replace p27 := eq_true p27; replace q27 := eq_true q27; have p60 : 0 ≤ ((ji22) : Int) := of_decide_eq_true (by first | (with_reducible assumption) | assumption); have q60 : (ji22) < (a0.size : Int) := of_decide_eq_true (by first | (with_reducible assumption) | assumption); have hx60 := bt_at a0 (ji22); replace p60 := eq_true p60; replace q60 := eq_true q60; have p62 : 0 ≤ ((ji22) : Int) := of_decide_eq_true (by first | (with_reducible assumption) | assumption); have q62 : (ji22) < (a0.size : Int) := of_decide_eq_true (by first | (with_reducible assumption) | assumption); have hx62 := bt_at a0 (ji22); replace p62 := eq_true p62; replace q62 := eq_true q62; have p64 : 0 ≤ ((ji22) : Int) := of_decide_eq_true (by first | (with_reducible assumption) | assumption); have q64 : (ji22) < (a0.size : Int) := of_decide_eq_true (by first | (with_reducible assumption) | assumption); have hx64 := bt_at a0 (ji22); replace p64 := eq_true p64; replace q64 := eq_true q64; have hcz68_0 : w67.cell? ⟨gb173, 0, none⟩ = some (.int .i64 x174000_11) := (blk_cell BK173.out 0).trans rfl; have hcz68_1 : w67.cell? ⟨gb173, 1, none⟩ = some (.string (a0.extract ((ji22) : Int).toNat ((wrap64 ((ji22) + 1)) : Int).toNat)) := (blk_cell BK173.out 1).trans rfl; have hfz68_0 := blk_frozen BK173.out 0; have hfz68_1 := blk_frozen BK173.out 1) | ((with_reducible refine gate_store (t := 117) (p := 7) rfl ?_); refine store_event (t := 117) (p := 7) (v := ?vo_w69) (w1 := ((w67.setCell ⟨gb173, 0, none⟩ (.int .i64 (((bt a0 (ji22)) - 48) % 256))).setCell ⟨gb173, 1, none⟩ (.string (⟨#[]⟩ : ByteArray)))) ?hg ?ho ?hn ?hr ?_; (case ho => rfl); (case hg => rfl); (case hn => rfl); (case hr => first | (go_simp; done) | (go_simp; rfl)); intro w69 hw; have n0_ : Aside0 (Kd.R k117 117 w69 w.heap.size (fun k_ => k_ ≠ gb173) u5 x5_1) := ⟨(by rw [hw]; exact (by (with_reducible repeat (first | apply Kd.R_alloc | apply Kd.R_drewN | apply Kd.R_drew)); exact Kd.R_mono (Kd.R_far (p := ⟨gb173, 1, none⟩) (Kd.R_far (p := ⟨gb173, 0, none⟩) (Kd.R_mono HO_5.out (fun k_ hk => (⟨hk, hk⟩ : _ ∧ k_ ≠ gb173))) (fun _ hk => hk.2) (.int .i64 (((bt a0 (ji22)) - 48) % 256))) (fun _ hk => hk.2) (.string (⟨#[]⟩ : ByteArray))) (fun _ hk => hk.1)))⟩; have n1_ : Aside0 (w69.heap[gb173]? = some (.cells #[.int .i64 (((bt a0 (ji22)) - 48) % 256), .string (⟨#[]⟩ : ByteArray)] 117 (0, 0))) := ⟨(by rw [hw]; exact (by (with_reducible repeat (first | refine blk_drewN ?_ _ | refine blk_drew ?_ | refine blk_alloc ?_ _)); refine blk_put (cs := #[.int .i64 (((bt a0 (ji22)) - 48) % 256), .string (a0.extract ((ji22) : Int).toNat ((wrap64 ((ji22) + 1)) : Int).toNat)]) ?_ 1 _ rfl; (with_reducible repeat (first | refine blk_drewN ?_ _ | refine blk_drew ?_ | refine blk_alloc ?_ _)); refine blk_put (cs := #[.int .i64 x174000_11, .string (a0.extract ((ji22) : Int).toNat ((wrap64 ((ji22) + 1)) : Int).toNat)]) ?_ 0 _ rfl; (with_reducible repeat (first | refine blk_drewN ?_ _ | refine blk_drew ?_ | refine blk_alloc ?_ _)); exact BK173.out))⟩; have n2_ : Aside0 (Below w.heap.size w w69) := ⟨(by rw [hw]; exact (by repeat (first | (with_reducible first | exact HB.out | apply below_alloc | apply pw_below_drewN | apply below_drew1 | refine below_set ?_ GE173.out) | exact HB.out)))⟩; clear hw; clear HO_5; clear BK173; clear HB; have HO_5 := n0_; have BK173 := n1_; have HB := n2_; clear n0_ n1_ n2_; have hcz70_0 : w69.cell? ⟨gb173, 0, none⟩ = some (.int .i64 (((bt a0 (ji22)) - 48) % 256)) := (blk_cell BK173.out 0).trans rfl; have hcz70_1 : w69.cell? ⟨gb173, 1, none⟩ = some (.string (⟨#[]⟩ : ByteArray)) := (blk_cell BK173.out 1).trans rfl; have hfz70_0 := blk_frozen BK173.out 0; have hfz70_1 := blk_frozen BK173.out 1; obtain ⟨Ao71, co71, eo71⟩ := Kd.R_slice HO_5.out; subst eo71) | ((with_reducible refine gate_callee (f := 60) rfl ?_); refine goesL_ (some 74) rfl rfl Try.func60 (by kernel_rfl) rfl #[.slice Ao71 x5_1.length co71, .agg #[.int .i64 (((bt a0 (ji22)) - 48) % 256), .string (⟨#[]⟩ : ByteArray)]] rfl (by (try simp only [List.map_toArray, List.map_cons, List.map_nil]); first | done | (simp only [hji22]; rfl) | rfl | (simp only [List.length_drop, List.length_take]; rfl)) ?_; (with_reducible refine (runnelref13_laid.calls (fun k_ => some k_ = (.slice Ao71 x5_1.length co71 : Value).ownBlock) (.slice Ao71 x5_1.length co71) x5_1 (((bt a0 (ji22)) - 48) % 256) (⟨#[]⟩ : ByteArray) t183 w _ ?side1 ?side2 A65.out).mono ?_); (case side1 => repeat (first | (with_reducible first | exact HB.out | apply below_alloc | apply pw_below_drewN | apply below_drew1 | refine below_set ?_ GE173.out) | exact HB.out)); (case side2 => exact Kd.R_tight rfl HO_5.out); rintro e w72 ⟨v184, rfl, ho0, hb, hkp⟩; refine ⟨_, rfl, ?_⟩; have n0_ := Aside0.mk (blk_kept (by (with_reducible repeat (first | refine blk_drewN ?_ _ | refine blk_drew ?_ | refine blk_alloc ?_ _)); exact BK173.out) hkp (fun hs_ => (fun e_ => (Kd.R_away HO_5.out (fun _ hk => hk)) e_) hs_)); have n1_ := Aside0.mk (Kd.R_mono (ok' := fun k_ => k_ ≠ gb173) ho0 (fun k_ hk_ => Or.elim hk_ (fun hs_ => fun e_ => (Kd.R_away HO_5.out (fun _ hk => hk)) (by rw [← e_]; exact hs_)) (fun hn_ => (Kd.freshB (g := gb173) (o := .cells #[.int .i64 (((bt a0 (ji22)) - 48) % 256), .string (⟨#[]⟩ : ByteArray)] 117 (0, 0)) (by (with_reducible repeat (first | refine blk_drewN ?_ _ | refine blk_drew ?_ | refine blk_alloc ?_ _)); exact BK173.out) k_ hn_)))); have n2_ := Aside0.mk (hb); clear BK173; clear HB; clear HO_5; have BK173 := n0_; have HO185 := n1_; have HB := n2_; clear n0_ n1_ n2_; (try clear hb); (try clear hkp); (try clear ho0)))
                                            go_roundg kj11
                                            case measure => have := HK1.out; have := HJ11.out; omega
                                            case rel => exact ⟨(t183), (wrap64 ((ji22) + 1)), (by first | rfl | (simp; done) | (simp only [← hji22] <;> (first | rfl | simp)) | (simp [*]; done)), (by first | exact H' | (simp only [hji22]; exact H')), ⟨by have := HK1.out; have := HJ11.out; omega⟩, ⟨by (with_reducible repeat (first | apply Kd.R_alloc | apply Kd.R_drewN | apply Kd.R_drew)); exact Kd.R_mono HO185.out (fun _ hk => trivial)⟩, ⟨by repeat (first | (with_reducible first | exact HB.out | apply below_alloc | apply pw_below_drewN | apply below_drew1 | refine below_set ?_ GE173.out) | exact HB.out)⟩⟩
                                          · rw [if_neg c63] at H
                                            have c63b0 : decide ((bt a0 (ji22)) ≤ 57) = false := decide_eq_false c63
                                            clear c63
                                            replace H := Option.bind_eq_some_iff.mp H
                                            obtain ⟨t186, A730, H⟩ := H
                                            replace H : (runnelref13_DocParse.l0 kj11 a0 t186 (wrap64 ((ji22) + 1))) = some (r1, r2, r3) := H
                                            have A73 := Aside0.mk A730
                                            clear A730
                                            have H' := Aside0.mk H
                                            clear H
                                            have p19 : 0 ≤ (x6_1 : Int) := of_decide_eq_true (by first | (with_reducible assumption) | assumption)
                                            have q19 : x6_1 < (a0.size : Int) := of_decide_eq_true (by first | (with_reducible assumption) | assumption)
                                            have hx19 := bt_at a0 x6_1
                                            replace p19 := eq_true p19
                                            replace q19 := eq_true q19
                                            have hcz74_0 : wc.cell? ⟨gb173, 0, none⟩ = some (.int .i64 x174000_11) := (blk_cell BK173.out 0).trans rfl
                                            have hcz74_1 : wc.cell? ⟨gb173, 1, none⟩ = some (.string x174001_11) := (blk_cell BK173.out 1).trans rfl
                                            have hfz74_0 := blk_frozen BK173.out 0
                                            have hfz74_1 := blk_frozen BK173.out 1
                                            go_wp2_with (first | ((with_reducible refine gate_store (t := 9) (p := 50) rfl ?_); refine store_event (t := 9) (p := 50) (v := ?vo_w75) (w1 := (wc.setCell ⟨gb173, 1, none⟩ (.string (a0.extract ((ji22) : Int).toNat ((wrap64 ((ji22) + 1)) : Int).toNat)))) ?hg ?ho ?hn ?hr ?_; (case ho => rfl); (case hg => rfl); (case hn => rfl); (case hr => first | (go_simp; done) | (go_simp; rfl)); intro w75 hw; have n0_ : Aside0 (Kd.R k117 117 w75 w.heap.size (fun k_ => k_ ≠ gb173) u5 x5_1) := ⟨(by rw [hw]; exact (by (with_reducible repeat (first | apply Kd.R_alloc | apply Kd.R_drewN | apply Kd.R_drew)); exact Kd.R_mono (Kd.R_far (p := ⟨gb173, 1, none⟩) (Kd.R_mono HO_5.out (fun k_ hk => (⟨hk, hk⟩ : _ ∧ k_ ≠ gb173))) (fun _ hk => hk.2) (.string (a0.extract ((ji22) : Int).toNat ((wrap64 ((ji22) + 1)) : Int).toNat))) (fun _ hk => hk.1)))⟩; have n1_ : Aside0 (w75.heap[gb173]? = some (.cells #[.int .i64 x174000_11, .string (a0.extract ((ji22) : Int).toNat ((wrap64 ((ji22) + 1)) : Int).toNat)] 117 (0, 0))) := ⟨(by rw [hw]; exact (by (with_reducible repeat (first | refine blk_drewN ?_ _ | refine blk_drew ?_ | refine blk_alloc ?_ _)); refine blk_put (cs := #[.int .i64 x174000_11, .string x174001_11]) ?_ 1 _ rfl; (with_reducible repeat (first | refine blk_drewN ?_ _ | refine blk_drew ?_ | refine blk_alloc ?_ _)); exact BK173.out))⟩; have n2_ : Aside0 (Below w.heap.size w w75) := ⟨(by rw [hw]; exact (by repeat (first | (with_reducible first | exact HB.out | apply below_alloc | apply pw_below_drewN | apply below_drew1 | refine below_set ?_ GE173.out) | exact HB.out)))⟩; clear hw; clear HO_5; clear BK173; clear HB; have HO_5 := n0_; have BK173 := n1_; have HB := n2_; clear n0_ n1_ n2_; have p27 : 0 ≤ ((ji22) : Int) := of_decide_eq_true (by first | (with_reducible assumption) | assumption); have q27 : (ji22) < (a0.size : Int) := of_decide_eq_true (by first | (with_reducible assumption) | assumption); have hx27 := bt_at a0 (ji22); replace p27 := eq_true p27; replace q27 := eq_true q27; have p60 : 0 ≤ ((ji22) : Int) := of_decide_eq_true (by first | (with_reducible assumption) | assumption); have q60 : (ji22) < (a0.size : Int) := of_decide_eq_true (by first | (with_reducible assumption) | assumption); have hx60 := bt_at a0 (ji22); replace p60 := eq_true p60; replace q60 := eq_true q60; have p62 : 0 ≤ ((ji22) : Int) := of_decide_eq_true (by first | (with_reducible assumption) | assumption); have q62 : (ji22) < (a0.size : Int) := of_decide_eq_true (by first | (with_reducible assumption) | assumption); have hx62 := bt_at a0 (ji22); replace p62 := eq_true p62; replace q62 := eq_true q62; have hcz76_0 : w75.cell? ⟨gb173, 0, none⟩ = some (.int .i64 x174000_11) := (blk_cell BK173.out 0).trans rfl; have hcz76_1 : w75.cell? ⟨gb173, 1, none⟩ = some (.string (a0.extract ((ji22) : Int).toNat ((wrap64 ((ji22) + 1)) : Int).toNat)) := (blk_cell BK173.out 1).trans rfl; have hfz76_0 := blk_frozen BK173.out 0; have hfz76_1 := blk_frozen BK173.out 1; obtain ⟨Ao77, co77, eo77⟩ := Kd.R_slice HO_5.out; subst eo77) | ((with_reducible refine gate_callee (f := 60) rfl ?_); refine goesL_ (some 74) rfl rfl Try.func60 (by kernel_rfl) rfl #[.slice Ao77 x5_1.length co77, .agg #[.int .i64 x174000_11, .string (a0.extract ((ji22) : Int).toNat ((wrap64 ((ji22) + 1)) : Int).toNat)]] rfl (by (try simp only [List.map_toArray, List.map_cons, List.map_nil]); first | done | (simp only [hji22]; rfl) | rfl | (simp only [List.length_drop, List.length_take]; rfl)) ?_; (with_reducible refine (runnelref13_laid.calls (fun k_ => some k_ = (.slice Ao77 x5_1.length co77 : Value).ownBlock) (.slice Ao77 x5_1.length co77) x5_1 x174000_11 (a0.extract ((ji22) : Int).toNat ((wrap64 ((ji22) + 1)) : Int).toNat) t186 w _ ?side1 ?side2 A73.out).mono ?_); (case side1 => repeat (first | (with_reducible first | exact HB.out | apply below_alloc | apply pw_below_drewN | apply below_drew1 | refine below_set ?_ GE173.out) | exact HB.out)); (case side2 => exact Kd.R_tight rfl HO_5.out); rintro e w78 ⟨v187, rfl, ho0, hb, hkp⟩; refine ⟨_, rfl, ?_⟩; have n0_ := Aside0.mk (blk_kept (by (with_reducible repeat (first | refine blk_drewN ?_ _ | refine blk_drew ?_ | refine blk_alloc ?_ _)); exact BK173.out) hkp (fun hs_ => (fun e_ => (Kd.R_away HO_5.out (fun _ hk => hk)) e_) hs_)); have n1_ := Aside0.mk (Kd.R_mono (ok' := fun k_ => k_ ≠ gb173) ho0 (fun k_ hk_ => Or.elim hk_ (fun hs_ => fun e_ => (Kd.R_away HO_5.out (fun _ hk => hk)) (by rw [← e_]; exact hs_)) (fun hn_ => (Kd.freshB (g := gb173) (o := .cells #[.int .i64 x174000_11, .string (a0.extract ((ji22) : Int).toNat ((wrap64 ((ji22) + 1)) : Int).toNat)] 117 (0, 0)) (by (with_reducible repeat (first | refine blk_drewN ?_ _ | refine blk_drew ?_ | refine blk_alloc ?_ _)); exact BK173.out) k_ hn_)))); have n2_ := Aside0.mk (hb); clear BK173; clear HB; clear HO_5; have BK173 := n0_; have HO188 := n1_; have HB := n2_; clear n0_ n1_ n2_; (try clear hb); (try clear hkp); (try clear ho0)))
                                            go_roundg kj11
                                            case measure => have := HK1.out; have := HJ11.out; omega
                                            case rel => exact ⟨(t186), (wrap64 ((ji22) + 1)), (by first | rfl | (simp; done) | (simp only [← hji22] <;> (first | rfl | simp)) | (simp [*]; done)), (by first | exact H' | (simp only [hji22]; exact H')), ⟨by have := HK1.out; have := HJ11.out; omega⟩, ⟨by (with_reducible repeat (first | apply Kd.R_alloc | apply Kd.R_drewN | apply Kd.R_drew)); exact Kd.R_mono HO188.out (fun _ hk => trivial)⟩, ⟨by repeat (first | (with_reducible first | exact HB.out | apply below_alloc | apply pw_below_drewN | apply below_drew1 | refine below_set ?_ GE173.out) | exact HB.out)⟩⟩
                                        · rw [if_neg c61] at H
                                          have c61b0 : decide (48 ≤ (bt a0 (ji22))) = false := decide_eq_false c61
                                          clear c61
                                          replace H := Option.bind_eq_some_iff.mp H
                                          obtain ⟨t189, A790, H⟩ := H
                                          replace H : (runnelref13_DocParse.l0 kj11 a0 t189 (wrap64 ((ji22) + 1))) = some (r1, r2, r3) := H
                                          have A79 := Aside0.mk A790
                                          clear A790
                                          have H' := Aside0.mk H
                                          clear H
                                          have p19 : 0 ≤ (x6_1 : Int) := of_decide_eq_true (by first | (with_reducible assumption) | assumption)
                                          have q19 : x6_1 < (a0.size : Int) := of_decide_eq_true (by first | (with_reducible assumption) | assumption)
                                          have hx19 := bt_at a0 x6_1
                                          replace p19 := eq_true p19
                                          replace q19 := eq_true q19
                                          have hcz80_0 : wc.cell? ⟨gb173, 0, none⟩ = some (.int .i64 x174000_11) := (blk_cell BK173.out 0).trans rfl
                                          have hcz80_1 : wc.cell? ⟨gb173, 1, none⟩ = some (.string x174001_11) := (blk_cell BK173.out 1).trans rfl
                                          have hfz80_0 := blk_frozen BK173.out 0
                                          have hfz80_1 := blk_frozen BK173.out 1
                                          go_wp2_with (first | ((with_reducible refine gate_store (t := 9) (p := 50) rfl ?_); refine store_event (t := 9) (p := 50) (v := ?vo_w81) (w1 := (wc.setCell ⟨gb173, 1, none⟩ (.string (a0.extract ((ji22) : Int).toNat ((wrap64 ((ji22) + 1)) : Int).toNat)))) ?hg ?ho ?hn ?hr ?_; (case ho => rfl); (case hg => rfl); (case hn => rfl); (case hr => first | (go_simp; done) | (go_simp; rfl)); intro w81 hw; have n0_ : Aside0 (Kd.R k117 117 w81 w.heap.size (fun k_ => k_ ≠ gb173) u5 x5_1) := ⟨(by rw [hw]; exact (by (with_reducible repeat (first | apply Kd.R_alloc | apply Kd.R_drewN | apply Kd.R_drew)); exact Kd.R_mono (Kd.R_far (p := ⟨gb173, 1, none⟩) (Kd.R_mono HO_5.out (fun k_ hk => (⟨hk, hk⟩ : _ ∧ k_ ≠ gb173))) (fun _ hk => hk.2) (.string (a0.extract ((ji22) : Int).toNat ((wrap64 ((ji22) + 1)) : Int).toNat))) (fun _ hk => hk.1)))⟩; have n1_ : Aside0 (w81.heap[gb173]? = some (.cells #[.int .i64 x174000_11, .string (a0.extract ((ji22) : Int).toNat ((wrap64 ((ji22) + 1)) : Int).toNat)] 117 (0, 0))) := ⟨(by rw [hw]; exact (by (with_reducible repeat (first | refine blk_drewN ?_ _ | refine blk_drew ?_ | refine blk_alloc ?_ _)); refine blk_put (cs := #[.int .i64 x174000_11, .string x174001_11]) ?_ 1 _ rfl; (with_reducible repeat (first | refine blk_drewN ?_ _ | refine blk_drew ?_ | refine blk_alloc ?_ _)); exact BK173.out))⟩; have n2_ : Aside0 (Below w.heap.size w w81) := ⟨(by rw [hw]; exact (by repeat (first | (with_reducible first | exact HB.out | apply below_alloc | apply pw_below_drewN | apply below_drew1 | refine below_set ?_ GE173.out) | exact HB.out)))⟩; clear hw; clear HO_5; clear BK173; clear HB; have HO_5 := n0_; have BK173 := n1_; have HB := n2_; clear n0_ n1_ n2_; have p27 : 0 ≤ ((ji22) : Int) := of_decide_eq_true (by first | (with_reducible assumption) | assumption); have q27 : (ji22) < (a0.size : Int) := of_decide_eq_true (by first | (with_reducible assumption) | assumption); have hx27 := bt_at a0 (ji22); replace p27 := eq_true p27; replace q27 := eq_true q27; have p60 : 0 ≤ ((ji22) : Int) := of_decide_eq_true (by first | (with_reducible assumption) | assumption); have q60 : (ji22) < (a0.size : Int) := of_decide_eq_true (by first | (with_reducible assumption) | assumption); have hx60 := bt_at a0 (ji22); replace p60 := eq_true p60; replace q60 := eq_true q60; have hcz82_0 : w81.cell? ⟨gb173, 0, none⟩ = some (.int .i64 x174000_11) := (blk_cell BK173.out 0).trans rfl; have hcz82_1 : w81.cell? ⟨gb173, 1, none⟩ = some (.string (a0.extract ((ji22) : Int).toNat ((wrap64 ((ji22) + 1)) : Int).toNat)) := (blk_cell BK173.out 1).trans rfl; have hfz82_0 := blk_frozen BK173.out 0; have hfz82_1 := blk_frozen BK173.out 1; obtain ⟨Ao83, co83, eo83⟩ := Kd.R_slice HO_5.out; subst eo83) | ((with_reducible refine gate_callee (f := 60) rfl ?_); refine goesL_ (some 74) rfl rfl Try.func60 (by kernel_rfl) rfl #[.slice Ao83 x5_1.length co83, .agg #[.int .i64 x174000_11, .string (a0.extract ((ji22) : Int).toNat ((wrap64 ((ji22) + 1)) : Int).toNat)]] rfl (by (try simp only [List.map_toArray, List.map_cons, List.map_nil]); first | done | (simp only [hji22]; rfl) | rfl | (simp only [List.length_drop, List.length_take]; rfl)) ?_; (with_reducible refine (runnelref13_laid.calls (fun k_ => some k_ = (.slice Ao83 x5_1.length co83 : Value).ownBlock) (.slice Ao83 x5_1.length co83) x5_1 x174000_11 (a0.extract ((ji22) : Int).toNat ((wrap64 ((ji22) + 1)) : Int).toNat) t189 w _ ?side1 ?side2 A79.out).mono ?_); (case side1 => repeat (first | (with_reducible first | exact HB.out | apply below_alloc | apply pw_below_drewN | apply below_drew1 | refine below_set ?_ GE173.out) | exact HB.out)); (case side2 => exact Kd.R_tight rfl HO_5.out); rintro e w84 ⟨v190, rfl, ho0, hb, hkp⟩; refine ⟨_, rfl, ?_⟩; have n0_ := Aside0.mk (blk_kept (by (with_reducible repeat (first | refine blk_drewN ?_ _ | refine blk_drew ?_ | refine blk_alloc ?_ _)); exact BK173.out) hkp (fun hs_ => (fun e_ => (Kd.R_away HO_5.out (fun _ hk => hk)) e_) hs_)); have n1_ := Aside0.mk (Kd.R_mono (ok' := fun k_ => k_ ≠ gb173) ho0 (fun k_ hk_ => Or.elim hk_ (fun hs_ => fun e_ => (Kd.R_away HO_5.out (fun _ hk => hk)) (by rw [← e_]; exact hs_)) (fun hn_ => (Kd.freshB (g := gb173) (o := .cells #[.int .i64 x174000_11, .string (a0.extract ((ji22) : Int).toNat ((wrap64 ((ji22) + 1)) : Int).toNat)] 117 (0, 0)) (by (with_reducible repeat (first | refine blk_drewN ?_ _ | refine blk_drew ?_ | refine blk_alloc ?_ _)); exact BK173.out) k_ hn_)))); have n2_ := Aside0.mk (hb); clear BK173; clear HB; clear HO_5; have BK173 := n0_; have HO191 := n1_; have HB := n2_; clear n0_ n1_ n2_; (try clear hb); (try clear hkp); (try clear ho0)))
                                          go_roundg kj11
                                          case measure => have := HK1.out; have := HJ11.out; omega
                                          case rel => exact ⟨(t189), (wrap64 ((ji22) + 1)), (by first | rfl | (simp; done) | (simp only [← hji22] <;> (first | rfl | simp)) | (simp [*]; done)), (by first | exact H' | (simp only [hji22]; exact H')), ⟨by have := HK1.out; have := HJ11.out; omega⟩, ⟨by (with_reducible repeat (first | apply Kd.R_alloc | apply Kd.R_drewN | apply Kd.R_drew)); exact Kd.R_mono HO191.out (fun _ hk => trivial)⟩, ⟨by repeat (first | (with_reducible first | exact HB.out | apply below_alloc | apply pw_below_drewN | apply below_drew1 | refine below_set ?_ GE173.out) | exact HB.out)⟩⟩
                                    · rw [if_neg c26] at H
                                      exact absurd H (by simp)
                                  · rw [if_neg c25] at H
                                    exact absurd H (by simp)
                                · rw [if_neg c24] at H
                                  exact absurd H (by simp)
                              · rw [if_neg c23] at H
                                exact absurd H (by simp)
                          · rw [if_neg c20] at H
                            have c20b0 : ((bt a0 x6_1) == 92) = false := beq_eq_false_iff_ne.mpr c20
                            have c20b1 : ((bt a0 x6_1) != 92) = true := bne_iff_ne.mpr c20
                            replace H := Option.bind_eq_some_iff.mp H
                            obtain ⟨t192, A850, H⟩ := H
                            replace H : (runnelref13_DocParse.l0 kj11 a0 t192 (wrap64 (x6_1 + 1))) = some (r1, r2, r3) := H
                            have A85 := Aside0.mk A850
                            clear A850
                            have H' := Aside0.mk H
                            clear H
                            have p19 : 0 ≤ (x6_1 : Int) := of_decide_eq_true (by first | (with_reducible assumption) | assumption)
                            have q19 : x6_1 < (a0.size : Int) := of_decide_eq_true (by first | (with_reducible assumption) | assumption)
                            have hx19 := bt_at a0 x6_1
                            replace p19 := eq_true p19
                            replace q19 := eq_true q19
                            have hcz86_0 : wc.cell? ⟨gb173, 0, none⟩ = some (.int .i64 x174000_11) := (blk_cell BK173.out 0).trans rfl
                            have hcz86_1 : wc.cell? ⟨gb173, 1, none⟩ = some (.string x174001_11) := (blk_cell BK173.out 1).trans rfl
                            have hfz86_0 := blk_frozen BK173.out 0
                            have hfz86_1 := blk_frozen BK173.out 1
                            obtain ⟨Ao87, co87, eo87⟩ := Kd.R_slice HO_5.out
                            subst eo87
                            go_wp2_with (first | ((with_reducible refine gate_callee (f := 60) rfl ?_); refine goesL_ (some 74) rfl rfl Try.func60 (by kernel_rfl) rfl #[.slice Ao87 x5_1.length co87, .agg #[.int .i64 x174000_11, .string x174001_11]] rfl (by (try simp only [List.map_toArray, List.map_cons, List.map_nil]); first | done | rfl | (simp only [List.length_drop, List.length_take]; rfl)) ?_; (with_reducible refine (runnelref13_laid.calls (fun k_ => some k_ = (.slice Ao87 x5_1.length co87 : Value).ownBlock) (.slice Ao87 x5_1.length co87) x5_1 x174000_11 x174001_11 t192 w _ ?side1 ?side2 A85.out).mono ?_); (case side1 => repeat (first | (with_reducible first | exact HB.out | apply below_alloc | apply pw_below_drewN | apply below_drew1 | refine below_set ?_ GE173.out) | exact HB.out)); (case side2 => exact Kd.R_tight rfl HO_5.out); rintro e w88 ⟨v193, rfl, ho0, hb, hkp⟩; refine ⟨_, rfl, ?_⟩; have n0_ := Aside0.mk (blk_kept (by (with_reducible repeat (first | refine blk_drewN ?_ _ | refine blk_drew ?_ | refine blk_alloc ?_ _)); exact BK173.out) hkp (fun hs_ => (fun e_ => (Kd.R_away HO_5.out (fun _ hk => hk)) e_) hs_)); have n1_ := Aside0.mk (Kd.R_mono (ok' := fun k_ => k_ ≠ gb173) ho0 (fun k_ hk_ => Or.elim hk_ (fun hs_ => fun e_ => (Kd.R_away HO_5.out (fun _ hk => hk)) (by rw [← e_]; exact hs_)) (fun hn_ => (Kd.freshB (g := gb173) (o := .cells #[.int .i64 x174000_11, .string x174001_11] 117 (0, 0)) (by (with_reducible repeat (first | refine blk_drewN ?_ _ | refine blk_drew ?_ | refine blk_alloc ?_ _)); exact BK173.out) k_ hn_)))); have n2_ := Aside0.mk (hb); clear BK173; clear HB; clear HO_5; have BK173 := n0_; have HO194 := n1_; have HB := n2_; clear n0_ n1_ n2_; (try clear hb); (try clear hkp); (try clear ho0)))
                            go_roundg kj11
                            case measure => have := HK1.out; have := HJ11.out; omega
                            case rel => exact ⟨(t192), (wrap64 (x6_1 + 1)), (by first | rfl | (simp; done) | (simp [*]; done)), H', ⟨by have := HK1.out; have := HJ11.out; omega⟩, ⟨by (with_reducible repeat (first | apply Kd.R_alloc | apply Kd.R_drewN | apply Kd.R_drew)); exact Kd.R_mono HO194.out (fun _ hk => trivial)⟩, ⟨by repeat (first | (with_reducible first | exact HB.out | apply below_alloc | apply pw_below_drewN | apply below_drew1 | refine below_set ?_ GE173.out) | exact HB.out)⟩⟩
                        · rw [if_neg c18] at H
                          exact absurd H (by simp)
                      · rw [if_neg c17] at H
                        exact absurd H (by simp)
              · rw [if_neg c6] at H
                exact absurd H (by simp)
            · rw [if_neg c5] at H
              exact absurd H (by simp)
          · rw [if_neg c4] at H
            exact absurd H (by simp)
        · rw [if_neg c3] at H
          have c3b0 : decide (x6_1 < (a0.size : Int)) = false := decide_eq_false c3
          clear c3
          simp only [Option.some.injEq, Prod.mk.injEq] at H
          obtain ⟨rfl, rfl, rfl⟩ := H
          go_wp2
          go_ret3
          exact ⟨_, by first | rfl | (simp [errW_none, errW_some] <;> rfl) | (simp [*, errW_none, errW_some] <;> rfl), by (with_reducible repeat (first | apply Kd.R_alloc | apply Kd.R_drewN | apply Kd.R_drew)); exact HO_5.out, by repeat (first | (with_reducible first | exact HB.out | apply below_alloc | apply pw_below_drewN | apply below_drew1) | exact HB.out)⟩

end Go.Proofs.Ytdlbmajilmmapaa.F
