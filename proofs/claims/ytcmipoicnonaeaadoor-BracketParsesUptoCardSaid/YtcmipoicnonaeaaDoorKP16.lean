/- Texts of this claim, 16 of 23: F11. -/

import Derived.Test.YtcmipoicnonaeaaDoorKP4
import Derived.Test.YtcmipoicnonaeaaDoorKP11
import Derived.Test.YtcmipoicnonaeaaDoorKP15
section
namespace Go.Proofs.YtcmipoicnonaeaaDoor.F
open Go.RowKit Go.Proofs.YtcmipoicnonaeaaDoorW.PrintWords Go.Proofs.YtcmipoicnonaeaaDoorW.PrintLast Go.Proofs.YtcmipoicnonaeaaDoorW.PrintMore
attribute [local go_sem] max2_int min2_int max_two min_two max_three min_three max_four min_four
set_option linter.unusedVariables false
set_option linter.unusedSimpArgs false
mutual
def runnelref03_DocParse.j0 : Nat → ByteArray → Int → Bool → Int → Int → Int → Int → Option (Int × Int × Int × Int × Int × Int)
  | 0, _, _, _, _, _, _, _ => none
  | k + 1, x0, x1, x24, x209000, x209001, x209002, x209003 => if x24 = true then (some (x209000, x209001, x209002, x209003, 0, 1)) else (if (wrap64 (x1 + 1)) < (x0.size : Int) then (if 0 ≤ (wrap64 (x1 + 1)) then (runnelref03_DocParse.j1 k x0 (wrap64 (x1 + 1)) ((bt x0 (wrap64 (x1 + 1))) == 94) x209000 x209001 x209002 x209003) else (none)) else (runnelref03_DocParse.j1 k x0 (wrap64 (x1 + 1)) false x209000 x209001 x209002 x209003))
def runnelref03_DocParse.j1 : Nat → ByteArray → Int → Bool → Int → Int → Int → Int → Option (Int × Int × Int × Int × Int × Int)
  | 0, _, _, _, _, _, _, _ => none
  | k + 1, x0, x1, x8, x209000, x209001, x209002, x209003 => if x8 = true then (runnelref03_DocParse.j2 k x0 (wrap64 (x1 + 1)) x8 x209000 x209001 x209002 x209003) else (runnelref03_DocParse.j2 k x0 x1 x8 x209000 x209001 x209002 x209003)
def runnelref03_DocParse.j2 : Nat → ByteArray → Int → Bool → Int → Int → Int → Int → Option (Int × Int × Int × Int × Int × Int)
  | 0, _, _, _, _, _, _, _ => none
  | k + 1, x0, x1, x8, x209000, x209001, x209002, x209003 => runnelref03_DocParse.l0 k x0 x1 x8 0 x209000 x209001 x209002 x209003
def runnelref03_DocParse.l0 : Nat → ByteArray → Int → Bool → Int → Int → Int → Int → Int → Option (Int × Int × Int × Int × Int × Int)
  | 0, _, _, _, _, _, _, _, _ => none
  | k + 1, x0, x1, x8, x9, x209000, x209001, x209002, x209003 => if x1 ≥ (x0.size : Int) then (some (0, 0, 0, 0, 0, 6)) else (if x9 > 0 then (if 0 ≤ x1 then (if x1 < (x0.size : Int) then (runnelref03_DocParse.j4 k x0 x1 x8 x9 ((bt x0 x1) == 93) x209000 x209001 x209002 x209003) else (none)) else (none)) else (runnelref03_DocParse.j4 k x0 x1 x8 x9 false x209000 x209001 x209002 x209003))
def runnelref03_DocParse.j4 : Nat → ByteArray → Int → Bool → Int → Bool → Int → Int → Int → Int → Option (Int × Int × Int × Int × Int × Int)
  | 0, _, _, _, _, _, _, _, _, _ => none
  | k + 1, x0, x1, x8, x9, x55, x209000, x209001, x209002, x209003 => if x55 = true then (if x8 = true then ((runnelref02_Not.f k x209000 x209001 x209002 x209003).bind fun bt209 => (some (bt209.1, bt209.2.1, bt209.2.2.1, bt209.2.2.2, wrap64 (x1 + 1), 0))) else (some (x209000, x209001, x209002, x209003, wrap64 (x1 + 1), 0))) else ((runnelref03_ranged.f k x0 x1).bind fun bt213 => (if bt213.2.2.2.2.2.2.2 = 0 then ((runnelref02_Or.f k x209000 x209001 x209002 x209003 bt213.1 bt213.2.1 bt213.2.2.1 bt213.2.2.2.1).bind fun bt222 => (runnelref03_DocParse.l0 k x0 bt213.2.2.2.2.2.2.1 x8 (wrap64 (x9 + 1)) bt222.1 bt222.2.1 bt222.2.2.1 bt222.2.2.2)) else (some (0, 0, 0, 0, 0, bt213.2.2.2.2.2.2.2))))
end
def runnelref03_DocParse.f (k : Nat) (a0 : ByteArray) (a1 : Int) : Option (Int × Int × Int × Int × Int × Int) := if a1 < 0 then (runnelref03_DocParse.j0 k a0 a1 true 0 0 0 0) else (if a1 ≥ (a0.size : Int) then (runnelref03_DocParse.j0 k a0 a1 true 0 0 0 0) else (if 0 ≤ a1 then (if a1 < (a0.size : Int) then (runnelref03_DocParse.j0 k a0 a1 ((bt a0 a1) != 91) 0 0 0 0) else (none)) else (none)))
theorem runnelref03_DocParse.mono_l : ∀ k, (∀ y0 y1 y2 y3 y4 y5 y6, LeO (runnelref03_DocParse.j0 k y0 y1 y2 y3 y4 y5 y6) (runnelref03_DocParse.j0 (k + 1) y0 y1 y2 y3 y4 y5 y6)) ∧ (∀ y0 y1 y2 y3 y4 y5 y6, LeO (runnelref03_DocParse.j1 k y0 y1 y2 y3 y4 y5 y6) (runnelref03_DocParse.j1 (k + 1) y0 y1 y2 y3 y4 y5 y6)) ∧ (∀ y0 y1 y2 y3 y4 y5 y6, LeO (runnelref03_DocParse.j2 k y0 y1 y2 y3 y4 y5 y6) (runnelref03_DocParse.j2 (k + 1) y0 y1 y2 y3 y4 y5 y6)) ∧ (∀ y0 y1 y2 y3 y4 y5 y6 y7, LeO (runnelref03_DocParse.l0 k y0 y1 y2 y3 y4 y5 y6 y7) (runnelref03_DocParse.l0 (k + 1) y0 y1 y2 y3 y4 y5 y6 y7)) ∧ (∀ y0 y1 y2 y3 y4 y5 y6 y7 y8, LeO (runnelref03_DocParse.j4 k y0 y1 y2 y3 y4 y5 y6 y7 y8) (runnelref03_DocParse.j4 (k + 1) y0 y1 y2 y3 y4 y5 y6 y7 y8))
  | 0 => ⟨fun _ _ _ _ _ _ _ r h => by simp [runnelref03_DocParse.j0] at h, fun _ _ _ _ _ _ _ r h => by simp [runnelref03_DocParse.j1] at h, fun _ _ _ _ _ _ _ r h => by simp [runnelref03_DocParse.j2] at h, fun _ _ _ _ _ _ _ _ r h => by simp [runnelref03_DocParse.l0] at h, fun _ _ _ _ _ _ _ _ _ r h => by simp [runnelref03_DocParse.j4] at h⟩
  | k + 1 => by
    obtain ⟨ih0, ih1, ih2, ih3, ih4⟩ := runnelref03_DocParse.mono_l k
    refine ⟨?_, ?_, ?_, ?_, ?_⟩
    · intro y0 y1 y2 y3 y4 y5 y6
      unfold runnelref03_DocParse.j0
      repeat' first
      | (with_reducible exact ih0 _ _ _ _ _ _ _)
      | (with_reducible exact ih1 _ _ _ _ _ _ _)
      | (with_reducible exact ih2 _ _ _ _ _ _ _)
      | (with_reducible exact ih3 _ _ _ _ _ _ _ _)
      | (with_reducible exact ih4 _ _ _ _ _ _ _ _ _)
      | (with_reducible exact runnelref02_Not.mono _ _ _ _ _)
      | (with_reducible exact runnelref02_Or.mono _ _ _ _ _ _ _ _ _)
      | (with_reducible exact runnelref03_ranged.mono _ _ _)
      | (with_reducible exact LeO.refl _)
      | (with_reducible exact LeO.none _)
      | (with_reducible refine LeO.ite ?_ ?_)
      | (with_reducible refine LeO.bind ?_ (fun _ => ?_))
      | exact ih0 _ _ _ _ _ _ _
      | exact ih1 _ _ _ _ _ _ _
      | exact ih2 _ _ _ _ _ _ _
      | exact ih3 _ _ _ _ _ _ _ _
      | exact ih4 _ _ _ _ _ _ _ _ _
      | exact runnelref02_Not.mono _ _ _ _ _
      | exact runnelref02_Or.mono _ _ _ _ _ _ _ _ _
      | exact runnelref03_ranged.mono _ _ _
      | exact LeO.none _
      | refine LeO.ite ?_ ?_
      | refine LeO.bind ?_ (fun _ => ?_)
    · intro y0 y1 y2 y3 y4 y5 y6
      unfold runnelref03_DocParse.j1
      repeat' first
      | (with_reducible exact ih0 _ _ _ _ _ _ _)
      | (with_reducible exact ih1 _ _ _ _ _ _ _)
      | (with_reducible exact ih2 _ _ _ _ _ _ _)
      | (with_reducible exact ih3 _ _ _ _ _ _ _ _)
      | (with_reducible exact ih4 _ _ _ _ _ _ _ _ _)
      | (with_reducible exact runnelref02_Not.mono _ _ _ _ _)
      | (with_reducible exact runnelref02_Or.mono _ _ _ _ _ _ _ _ _)
      | (with_reducible exact runnelref03_ranged.mono _ _ _)
      | (with_reducible exact LeO.refl _)
      | (with_reducible exact LeO.none _)
      | (with_reducible refine LeO.ite ?_ ?_)
      | (with_reducible refine LeO.bind ?_ (fun _ => ?_))
      | exact ih0 _ _ _ _ _ _ _
      | exact ih1 _ _ _ _ _ _ _
      | exact ih2 _ _ _ _ _ _ _
      | exact ih3 _ _ _ _ _ _ _ _
      | exact ih4 _ _ _ _ _ _ _ _ _
      | exact runnelref02_Not.mono _ _ _ _ _
      | exact runnelref02_Or.mono _ _ _ _ _ _ _ _ _
      | exact runnelref03_ranged.mono _ _ _
      | exact LeO.none _
      | refine LeO.ite ?_ ?_
      | refine LeO.bind ?_ (fun _ => ?_)
    · intro y0 y1 y2 y3 y4 y5 y6
      unfold runnelref03_DocParse.j2
      repeat' first
      | (with_reducible exact ih0 _ _ _ _ _ _ _)
      | (with_reducible exact ih1 _ _ _ _ _ _ _)
      | (with_reducible exact ih2 _ _ _ _ _ _ _)
      | (with_reducible exact ih3 _ _ _ _ _ _ _ _)
      | (with_reducible exact ih4 _ _ _ _ _ _ _ _ _)
      | (with_reducible exact runnelref02_Not.mono _ _ _ _ _)
      | (with_reducible exact runnelref02_Or.mono _ _ _ _ _ _ _ _ _)
      | (with_reducible exact runnelref03_ranged.mono _ _ _)
      | (with_reducible exact LeO.refl _)
      | (with_reducible exact LeO.none _)
      | (with_reducible refine LeO.ite ?_ ?_)
      | (with_reducible refine LeO.bind ?_ (fun _ => ?_))
      | exact ih0 _ _ _ _ _ _ _
      | exact ih1 _ _ _ _ _ _ _
      | exact ih2 _ _ _ _ _ _ _
      | exact ih3 _ _ _ _ _ _ _ _
      | exact ih4 _ _ _ _ _ _ _ _ _
      | exact runnelref02_Not.mono _ _ _ _ _
      | exact runnelref02_Or.mono _ _ _ _ _ _ _ _ _
      | exact runnelref03_ranged.mono _ _ _
      | exact LeO.none _
      | refine LeO.ite ?_ ?_
      | refine LeO.bind ?_ (fun _ => ?_)
    · intro y0 y1 y2 y3 y4 y5 y6 y7
      unfold runnelref03_DocParse.l0
      repeat' first
      | (with_reducible exact ih0 _ _ _ _ _ _ _)
      | (with_reducible exact ih1 _ _ _ _ _ _ _)
      | (with_reducible exact ih2 _ _ _ _ _ _ _)
      | (with_reducible exact ih3 _ _ _ _ _ _ _ _)
      | (with_reducible exact ih4 _ _ _ _ _ _ _ _ _)
      | (with_reducible exact runnelref02_Not.mono _ _ _ _ _)
      | (with_reducible exact runnelref02_Or.mono _ _ _ _ _ _ _ _ _)
      | (with_reducible exact runnelref03_ranged.mono _ _ _)
      | (with_reducible exact LeO.refl _)
      | (with_reducible exact LeO.none _)
      | (with_reducible refine LeO.ite ?_ ?_)
      | (with_reducible refine LeO.bind ?_ (fun _ => ?_))
      | exact ih0 _ _ _ _ _ _ _
      | exact ih1 _ _ _ _ _ _ _
      | exact ih2 _ _ _ _ _ _ _
      | exact ih3 _ _ _ _ _ _ _ _
      | exact ih4 _ _ _ _ _ _ _ _ _
      | exact runnelref02_Not.mono _ _ _ _ _
      | exact runnelref02_Or.mono _ _ _ _ _ _ _ _ _
      | exact runnelref03_ranged.mono _ _ _
      | exact LeO.none _
      | refine LeO.ite ?_ ?_
      | refine LeO.bind ?_ (fun _ => ?_)
    · intro y0 y1 y2 y3 y4 y5 y6 y7 y8
      unfold runnelref03_DocParse.j4
      repeat' first
      | (with_reducible exact ih0 _ _ _ _ _ _ _)
      | (with_reducible exact ih1 _ _ _ _ _ _ _)
      | (with_reducible exact ih2 _ _ _ _ _ _ _)
      | (with_reducible exact ih3 _ _ _ _ _ _ _ _)
      | (with_reducible exact ih4 _ _ _ _ _ _ _ _ _)
      | (with_reducible exact runnelref02_Not.mono _ _ _ _ _)
      | (with_reducible exact runnelref02_Or.mono _ _ _ _ _ _ _ _ _)
      | (with_reducible exact runnelref03_ranged.mono _ _ _)
      | (with_reducible exact LeO.refl _)
      | (with_reducible exact LeO.none _)
      | (with_reducible refine LeO.ite ?_ ?_)
      | (with_reducible refine LeO.bind ?_ (fun _ => ?_))
      | exact ih0 _ _ _ _ _ _ _
      | exact ih1 _ _ _ _ _ _ _
      | exact ih2 _ _ _ _ _ _ _
      | exact ih3 _ _ _ _ _ _ _ _
      | exact ih4 _ _ _ _ _ _ _ _ _
      | exact runnelref02_Not.mono _ _ _ _ _
      | exact runnelref02_Or.mono _ _ _ _ _ _ _ _ _
      | exact runnelref03_ranged.mono _ _ _
      | exact LeO.none _
      | refine LeO.ite ?_ ?_
      | refine LeO.bind ?_ (fun _ => ?_)
theorem runnelref03_DocParse.mono : ∀ a0 a1 k, LeO (runnelref03_DocParse.f k a0 a1) (runnelref03_DocParse.f (k + 1) a0 a1) := by
  intro a0 a1 k
  obtain ⟨ih0, ih1, ih2, ih3, ih4⟩ := runnelref03_DocParse.mono_l k
  unfold runnelref03_DocParse.f
  repeat' first
      | (with_reducible exact ih0 _ _ _ _ _ _ _)
      | (with_reducible exact ih1 _ _ _ _ _ _ _)
      | (with_reducible exact ih2 _ _ _ _ _ _ _)
      | (with_reducible exact ih3 _ _ _ _ _ _ _ _)
      | (with_reducible exact ih4 _ _ _ _ _ _ _ _ _)
      | (with_reducible exact runnelref02_Not.mono _ _ _ _ _)
      | (with_reducible exact runnelref02_Or.mono _ _ _ _ _ _ _ _ _)
      | (with_reducible exact runnelref03_ranged.mono _ _ _)
      | (with_reducible exact LeO.refl _)
      | (with_reducible exact LeO.none _)
      | (with_reducible refine LeO.ite ?_ ?_)
      | (with_reducible refine LeO.bind ?_ (fun _ => ?_))
      | exact ih0 _ _ _ _ _ _ _
      | exact ih1 _ _ _ _ _ _ _
      | exact ih2 _ _ _ _ _ _ _
      | exact ih3 _ _ _ _ _ _ _ _
      | exact ih4 _ _ _ _ _ _ _ _ _
      | exact runnelref02_Not.mono _ _ _ _ _
      | exact runnelref02_Or.mono _ _ _ _ _ _ _ _ _
      | exact runnelref03_ranged.mono _ _ _
      | exact LeO.none _
      | refine LeO.ite ?_ ?_
      | refine LeO.bind ?_ (fun _ => ?_)
set_option maxHeartbeats 8000000 in
set_option maxRecDepth 100000 in
theorem runnelref03_DocParse.calls (k : Nat) (a0 : ByteArray) (a1 : Int) (r1 : Int) (r2 : Int) (r3 : Int) (r4 : Int) (r5 : Int) (r6 : Int) (w : World) (h : runnelref03_DocParse.f k a0 a1 = some (r1, r2, r3, r4, r5, r6)) :
    Calls Tryd.prog 11 #[.string a0, .int .i64 a1] w fun e w' => e = .returned (.tuple #[.agg #[.int .u64 r1, .int .u64 r2, .int .u64 r3, .int .u64 r4], .int .i64 r5, .int .i64 r6]) ∧ Below w.heap.size w w' := by
  have hu24 := Tryd.underlying24
  have hu59 := Tryd.underlying59
  have HB := Aside0.mk (Below.refl w.heap.size w)
  have H : (if a1 < 0 then (runnelref03_DocParse.j0 k a0 a1 true 0 0 0 0) else (if a1 ≥ (a0.size : Int) then (runnelref03_DocParse.j0 k a0 a1 true 0 0 0 0) else (if 0 ≤ a1 then (if a1 < (a0.size : Int) then (runnelref03_DocParse.j0 k a0 a1 ((bt a0 a1) != 91) 0 0 0 0) else (none)) else (none)))) = some (r1, r2, r3, r4, r5, r6) := h
  clear h
  have HC3 := Aside0.mk H
  clear H
  go_enter Tryd.func11, Tryd.ntmps11
  go_upto_region 2 with (first | ((with_reducible refine gate_dst (N := 4) rfl ?_); (try (refine gate_guard (by rfl) ?_; dsimp only)); refine box_event ?hg (N := 4) ?hd (cs := #[.int .u64 0, .int .u64 0, .int .u64 0, .int .u64 0]) (t := 24) ?hr ?_; (case hd => rfl); (case hg => rfl); (case hr => first | (go_simp; done) | (go_simp; rfl)); intro gb207 hg w4 hbox hb; have n0_ := Aside0.mk (below_step (by repeat (first | (with_reducible first | exact HB.out | apply below_alloc | apply pw_below_drewN | apply below_drew1) | exact HB.out)) hb); have n1_ := Aside0.mk (hbox); have n2_ := Aside0.mk ((by rw [hg]; exact (below_size (by repeat (first | (with_reducible first | exact HB.out | apply below_alloc | apply pw_below_drewN | apply below_drew1) | exact HB.out))) : w.heap.size ≤ gb207)); have n3_ := Aside0.mk ((by rw [hg]; exact (below_size (by repeat (first | (with_reducible first | exact HB.out | apply below_alloc | apply pw_below_drewN | apply below_drew1) | exact HB.out))) : w.heap.size ≤ gb207)); clear HB; have HB := n0_; have BK207 := n1_; have GW207 := n2_; have GE207 := n3_; clear n0_ n1_ n2_ n3_; clear hb hbox hg) | ((with_reducible refine gate_dst (N := 7) rfl ?_); (try (refine gate_guard (by rfl) ?_; dsimp only)); refine box_event ?hg (N := 7) ?hd (cs := #[.int .u64 0, .int .u64 0, .int .u64 0, .int .u64 0]) (t := 24) ?hr ?_; (case hd => rfl); (case hg => rfl); (case hr => first | (go_simp; done) | (go_simp; rfl)); intro gb208 hg w5 hbox hb; have n0_ := Aside0.mk (blk_below (g := gb207) (o := .cells #[.int .u64 0, .int .u64 0, .int .u64 0, .int .u64 0] 24 (0, 0)) (by (with_reducible repeat (first | refine blk_drewN ?_ _ | refine blk_drew ?_ | refine blk_alloc ?_ _)); exact BK207.out) hb); have n1_ := Aside0.mk (below_step (by repeat (first | (with_reducible first | exact HB.out | apply below_alloc | apply pw_below_drewN | apply below_drew1 | refine below_set ?_ GE207.out) | exact HB.out)) hb); have n2_ := Aside0.mk (hbox); have n3_ := Aside0.mk ((by rw [hg]; exact (below_size (by repeat (first | (with_reducible first | exact HB.out | apply below_alloc | apply pw_below_drewN | apply below_drew1 | refine below_set ?_ GE207.out) | exact HB.out))) : w.heap.size ≤ gb208)); have n4_ := Aside0.mk ((by rw [hg]; exact (below_size (by repeat (first | (with_reducible first | exact HB.out | apply below_alloc | apply pw_below_drewN | apply below_drew1 | refine below_set ?_ GE207.out) | exact HB.out))) : w.heap.size ≤ gb208)); have n5_ := Aside0.mk ((by rw [hg]; exact Nat.ne_of_lt (blk_lt (g := gb207) (o := .cells #[.int .u64 0, .int .u64 0, .int .u64 0, .int .u64 0] 24 (0, 0)) (by (with_reducible repeat (first | refine blk_drewN ?_ _ | refine blk_drew ?_ | refine blk_alloc ?_ _)); exact BK207.out)) : gb207 ≠ gb208)); have n6_ := Aside0.mk ((by rw [hg]; exact Nat.ne_of_gt (blk_lt (g := gb207) (o := .cells #[.int .u64 0, .int .u64 0, .int .u64 0, .int .u64 0] 24 (0, 0)) (by (with_reducible repeat (first | refine blk_drewN ?_ _ | refine blk_drew ?_ | refine blk_alloc ?_ _)); exact BK207.out)) : gb208 ≠ gb207)); clear BK207; clear HB; have BK207 := n0_; have HB := n1_; have BK208 := n2_; have GW208 := n3_; have GE208 := n4_; have NB207_208 := n5_; have NB208_207 := n6_; clear n0_ n1_ n2_ n3_ n4_ n5_ n6_; clear hb hbox hg))
  (try simp only [Act.put, List.setIfInBounds_toArray, List.set_cons_zero, List.set_cons_succ])
  go_cut [24] (fun v24 wc => ∃ (kq : Nat) (x24_2 : Bool), v24 = .bool x24_2 ∧ Aside0 (runnelref03_DocParse.j0 kq a0 a1 x24_2 0 0 0 0 = some (r1, r2, r3, r4, r5, r6)) ∧ Aside0 (kq ≤ k) ∧ Aside0 (wc.heap[gb207]? = some (.cells #[.int .u64 0, .int .u64 0, .int .u64 0, .int .u64 0] 24 (0, 0))) ∧ Aside0 (wc.heap[gb208]? = some (.cells #[.int .u64 0, .int .u64 0, .int .u64 0, .int .u64 0] 24 (0, 0))) ∧ Aside0 (Below w.heap.size w wc))
  case first =>
    have H := HC3.out
    clear HC3
    by_cases c6 : a1 < 0
    · rw [if_pos c6] at H
      have c6b0 : decide (a1 < 0) = true := decide_eq_true c6
      clear c6
      (first | rw [c6b0] | (simp only [i64_w, i32_w]; rw [c6b0]) | skip)
      have H' := Aside0.mk H
      clear H
      go_wp2
      go_meet
      case rel => exact ⟨_, (true), (by first | rfl | (simp; done) | (simp [*]; done) | (exfalso; simp only [decide_eq_true_eq] at *; omega)), H', ⟨by first | omega | exact Nat.le_refl _⟩, ⟨by (with_reducible repeat (first | refine blk_drewN ?_ _ | refine blk_drew ?_ | refine blk_alloc ?_ _)); exact BK207.out⟩, ⟨by (with_reducible repeat (first | refine blk_drewN ?_ _ | refine blk_drew ?_ | refine blk_alloc ?_ _)); exact BK208.out⟩, ⟨by repeat (first | (with_reducible first | exact HB.out | apply below_alloc | apply pw_below_drewN | apply below_drew1 | refine below_set ?_ GE207.out | refine below_set ?_ GE208.out) | exact HB.out)⟩⟩
    · rw [if_neg c6] at H
      have c6b0 : decide (a1 < 0) = false := decide_eq_false c6
      clear c6
      (first | rw [c6b0] | (simp only [i64_w, i32_w]; rw [c6b0]) | skip)
      by_cases c7 : a1 ≥ (a0.size : Int)
      · rw [if_pos c7] at H
        have c7b0 : decide ((a0.size : Int) ≤ a1) = true := decide_eq_true c7
        clear c7
        have H' := Aside0.mk H
        clear H
        go_wp2
        go_meet
        case rel => exact ⟨_, (true), (by first | rfl | (simp; done) | (simp [*]; done) | (exfalso; simp only [decide_eq_true_eq] at *; omega)), H', ⟨by first | omega | exact Nat.le_refl _⟩, ⟨by (with_reducible repeat (first | refine blk_drewN ?_ _ | refine blk_drew ?_ | refine blk_alloc ?_ _)); exact BK207.out⟩, ⟨by (with_reducible repeat (first | refine blk_drewN ?_ _ | refine blk_drew ?_ | refine blk_alloc ?_ _)); exact BK208.out⟩, ⟨by repeat (first | (with_reducible first | exact HB.out | apply below_alloc | apply pw_below_drewN | apply below_drew1 | refine below_set ?_ GE207.out | refine below_set ?_ GE208.out) | exact HB.out)⟩⟩
      · rw [if_neg c7] at H
        have c7b0 : decide ((a0.size : Int) ≤ a1) = false := decide_eq_false c7
        clear c7
        by_cases c8 : 0 ≤ a1
        · rw [if_pos c8] at H
          have c8b0 : decide (0 ≤ a1) = true := decide_eq_true c8
          clear c8
          by_cases c9 : a1 < (a0.size : Int)
          · rw [if_pos c9] at H
            have c9b0 : decide (a1 < (a0.size : Int)) = true := decide_eq_true c9
            clear c9
            have H' := Aside0.mk H
            clear H
            have p10 : 0 ≤ (a1 : Int) := of_decide_eq_true (by first | (with_reducible assumption) | assumption)
            have q10 : a1 < (a0.size : Int) := of_decide_eq_true (by first | (with_reducible assumption) | assumption)
            have hx10 := bt_at a0 a1
            replace p10 := eq_true p10
            replace q10 := eq_true q10
            go_wp2
            go_meet
            case rel => exact ⟨_, (((bt a0 a1) != 91)), (by first | rfl | (simp; done) | (simp [*]; done) | (exfalso; simp only [decide_eq_true_eq] at *; omega)), H', ⟨by first | omega | exact Nat.le_refl _⟩, ⟨by (with_reducible repeat (first | refine blk_drewN ?_ _ | refine blk_drew ?_ | refine blk_alloc ?_ _)); exact BK207.out⟩, ⟨by (with_reducible repeat (first | refine blk_drewN ?_ _ | refine blk_drew ?_ | refine blk_alloc ?_ _)); exact BK208.out⟩, ⟨by repeat (first | (with_reducible first | exact HB.out | apply below_alloc | apply pw_below_drewN | apply below_drew1 | refine below_set ?_ GE207.out | refine below_set ?_ GE208.out) | exact HB.out)⟩⟩
          · rw [if_neg c9] at H
            exact absurd H (by simp)
        · rw [if_neg c8] at H
          exact absurd H (by simp)
  case rest =>
    clear HC3
    try clear c1
    try clear p1
    try clear q1
    try clear hx1
    try clear p2
    try clear c6
    try clear c6b0
    try clear c7
    try clear c7b0
    try clear c8
    try clear c8b0
    try clear c9
    try clear c9b0
    try clear p10
    try clear q10
    try clear hx10
    try clear p10
    try clear q10
    obtain ⟨kq, x24_2, rfl, HA, HJ2, BK207, BK208, HB⟩ := hcut
    cases kq with
    | zero => exact absurd HA.out (by simp [runnelref03_DocParse.j0])
    | succ kj2 =>
      have H := HA.out
      clear HA
      simp only [runnelref03_DocParse.j0] at H
      by_cases c11 : x24_2 = true
      · subst c11
        have H1 : (some (0, 0, 0, 0, 0, 1)) = some (r1, r2, r3, r4, r5, r6) := by rw [if_pos rfl] at H; exact H
        clear H
        have H := H1
        clear H1
        simp only [Option.some.injEq, Prod.mk.injEq] at H
        obtain ⟨rfl, rfl, rfl, rfl, rfl, rfl⟩ := H
        have hnb12 := NB208_207.out
        have hnc12 := NB207_208.out
        have hcz13_0 : wc.cell? ⟨gb208, 0, none⟩ = some (.int .u64 0) := (blk_cell BK208.out 0).trans rfl
        have hcz13_1 : wc.cell? ⟨gb208, 1, none⟩ = some (.int .u64 0) := (blk_cell BK208.out 1).trans rfl
        have hcz13_2 : wc.cell? ⟨gb208, 2, none⟩ = some (.int .u64 0) := (blk_cell BK208.out 2).trans rfl
        have hcz13_3 : wc.cell? ⟨gb208, 3, none⟩ = some (.int .u64 0) := (blk_cell BK208.out 3).trans rfl
        have hfz13_0 := blk_frozen BK208.out 0
        have hfz13_1 := blk_frozen BK208.out 1
        have hfz13_2 := blk_frozen BK208.out 2
        have hfz13_3 := blk_frozen BK208.out 3
        have hcz14_0 : wc.cell? ⟨gb207, 0, none⟩ = some (.int .u64 0) := (blk_cell BK207.out 0).trans rfl
        have hcz14_1 : wc.cell? ⟨gb207, 1, none⟩ = some (.int .u64 0) := (blk_cell BK207.out 1).trans rfl
        have hcz14_2 : wc.cell? ⟨gb207, 2, none⟩ = some (.int .u64 0) := (blk_cell BK207.out 2).trans rfl
        have hcz14_3 : wc.cell? ⟨gb207, 3, none⟩ = some (.int .u64 0) := (blk_cell BK207.out 3).trans rfl
        have hfz14_0 := blk_frozen BK207.out 0
        have hfz14_1 := blk_frozen BK207.out 1
        have hfz14_2 := blk_frozen BK207.out 2
        have hfz14_3 := blk_frozen BK207.out 3
        go_wp2
        refine bodyPost_ret (results_ctt rfl _ _ gb207 24 #[.int .u64 0, .int .u64 0, .int .u64 0, .int .u64 0] (0, 0) _ rfl (by (with_reducible repeat (first | refine blk_drewN ?_ _ | refine blk_drew ?_ | refine blk_alloc ?_ _)); refine blk_put (cs := #[.int .u64 0, .int .u64 0, .int .u64 0, .int .u64 0]) ?_ 3 _ rfl; (with_reducible repeat (first | refine blk_drewN ?_ _ | refine blk_drew ?_ | refine blk_alloc ?_ _)); refine blk_put (cs := #[.int .u64 0, .int .u64 0, .int .u64 0, .int .u64 0]) ?_ 2 _ rfl; (with_reducible repeat (first | refine blk_drewN ?_ _ | refine blk_drew ?_ | refine blk_alloc ?_ _)); refine blk_put (cs := #[.int .u64 0, .int .u64 0, .int .u64 0, .int .u64 0]) ?_ 1 _ rfl; (with_reducible repeat (first | refine blk_drewN ?_ _ | refine blk_drew ?_ | refine blk_alloc ?_ _)); refine blk_put (cs := #[.int .u64 0, .int .u64 0, .int .u64 0, .int .u64 0]) ?_ 0 _ rfl; (with_reducible repeat (first | refine blk_drewN ?_ _ | refine blk_drew ?_ | refine blk_alloc ?_ _)); exact BK207.out) Tryd.underlying24 rfl (by kernel_rfl)) rfl ?_
        exact ⟨by first | rfl | (simp only [wrap_wrap]; done) | (simp only [wrap_wrap]; rfl) | (simp [errW_none, errW_some] <;> rfl) | (simp [*, errW_none, errW_some] <;> rfl), by repeat (first | (with_reducible first | exact HB.out | apply below_alloc | apply pw_below_drewN | apply below_drew1 | refine below_set ?_ GE207.out | refine below_set ?_ GE208.out) | exact HB.out)⟩
      · replace c11 := Bool.eq_false_iff.mpr c11
        subst c11
        have H1 : (if (wrap64 (a1 + 1)) < (a0.size : Int) then (if 0 ≤ (wrap64 (a1 + 1)) then (runnelref03_DocParse.j1 kj2 a0 (wrap64 (a1 + 1)) ((bt a0 (wrap64 (a1 + 1))) == 94) 0 0 0 0) else (none)) else (runnelref03_DocParse.j1 kj2 a0 (wrap64 (a1 + 1)) false 0 0 0 0)) = some (r1, r2, r3, r4, r5, r6) := by rw [if_neg (show ¬ (false = true) by decide)] at H; exact H
        clear H
        have H := H1
        clear H1
        have HC15 := Aside0.mk H
        clear H
        go_upto_region 5 with (fail)
        go_cut [8] (fun v8 wc => ∃ (kq : Nat) (x8_14 : Bool), v8 = .bool x8_14 ∧ Aside0 (runnelref03_DocParse.j1 kq a0 (wrap64 (a1 + 1)) x8_14 0 0 0 0 = some (r1, r2, r3, r4, r5, r6)) ∧ Aside0 (kq ≤ kj2) ∧ Aside0 (wc.heap[gb207]? = some (.cells #[.int .u64 0, .int .u64 0, .int .u64 0, .int .u64 0] 24 (0, 0))) ∧ Aside0 (wc.heap[gb208]? = some (.cells #[.int .u64 0, .int .u64 0, .int .u64 0, .int .u64 0] 24 (0, 0))) ∧ Aside0 (Below w.heap.size w wc))
        case first =>
          have H := HC15.out
          clear HC15
          by_cases c16 : (wrap64 (a1 + 1)) < (a0.size : Int)
          · rw [if_pos c16] at H
            have c16b0 : decide ((wrap64 (a1 + 1)) < (a0.size : Int)) = true := decide_eq_true c16
            clear c16
            (first | rw [c16b0] | (simp only [i64_w, i32_w]; rw [c16b0]) | skip)
            obtain ⟨ji17, hji17⟩ : ∃ j_ : Int, (wrap64 (a1 + 1)) = j_ := ⟨_, rfl⟩
            replace H : (if 0 ≤ (ji17) then (runnelref03_DocParse.j1 kj2 a0 ji17 ((bt a0 (ji17)) == 94) 0 0 0 0) else (none)) = some (r1, r2, r3, r4, r5, r6) := by first | (rw [hji17] at H; exact H) | (simp only [hji17] at H ⊢; exact H)
            (try rw [hji17] at c16b0)
            have hji17w : (IntKind.i64.wrap (a1 + 1)) = ji17 := (i64_w _).trans hji17
            by_cases c18 : 0 ≤ (ji17)
            · rw [if_pos c18] at H
              have c18b0 : decide (0 ≤ (ji17)) = true := decide_eq_true c18
              clear c18
              have H' := Aside0.mk H
              clear H
              have p19 : 0 ≤ ((ji17) : Int) := of_decide_eq_true (by first | (with_reducible assumption) | assumption)
              have q19 : (ji17) < (a0.size : Int) := of_decide_eq_true (by first | (with_reducible assumption) | assumption)
              have hx19 := bt_at a0 (ji17)
              replace p19 := eq_true p19
              replace q19 := eq_true q19
              go_wp2
              go_meet
              case rel => exact ⟨_, (((bt a0 (ji17)) == 94)), (by first | rfl | (simp; done) | (simp only [← hji17] <;> (first | rfl | simp)) | (simp [*]; done)), (by first | exact H' | (simp only [hji17]; exact H')), ⟨by have := HJ2.out; first | omega | exact Nat.le_refl _⟩, ⟨by (with_reducible repeat (first | refine blk_drewN ?_ _ | refine blk_drew ?_ | refine blk_alloc ?_ _)); exact BK207.out⟩, ⟨by (with_reducible repeat (first | refine blk_drewN ?_ _ | refine blk_drew ?_ | refine blk_alloc ?_ _)); exact BK208.out⟩, ⟨by repeat (first | (with_reducible first | exact HB.out | apply below_alloc | apply pw_below_drewN | apply below_drew1 | refine below_set ?_ GE207.out | refine below_set ?_ GE208.out) | exact HB.out)⟩⟩
            · rw [if_neg c18] at H
              exact absurd H (by simp)
          · rw [if_neg c16] at H
            have c16b0 : decide ((wrap64 (a1 + 1)) < (a0.size : Int)) = false := decide_eq_false c16
            clear c16
            (first | rw [c16b0] | (simp only [i64_w, i32_w]; rw [c16b0]) | skip)
            have H' := Aside0.mk H
            clear H
            go_wp2
            go_meet
            case rel => exact ⟨_, (false), (by first | rfl | (simp; done) | (simp [*]; done) | (exfalso; simp only [decide_eq_true_eq] at *; omega)), H', ⟨by have := HJ2.out; first | omega | exact Nat.le_refl _⟩, ⟨by (with_reducible repeat (first | refine blk_drewN ?_ _ | refine blk_drew ?_ | refine blk_alloc ?_ _)); exact BK207.out⟩, ⟨by (with_reducible repeat (first | refine blk_drewN ?_ _ | refine blk_drew ?_ | refine blk_alloc ?_ _)); exact BK208.out⟩, ⟨by repeat (first | (with_reducible first | exact HB.out | apply below_alloc | apply pw_below_drewN | apply below_drew1 | refine below_set ?_ GE207.out | refine below_set ?_ GE208.out) | exact HB.out)⟩⟩
        case rest =>
          clear HC15
          try clear c1
          try clear p1
          try clear q1
          try clear hx1
          try clear p2
          try clear c6
          try clear c6b0
          try clear p6
          try clear c7
          try clear c7b0
          try clear c8
          try clear c8b0
          try clear c9
          try clear c9b0
          try clear p10
          try clear q10
          try clear hx10
          try clear c11
          try clear c12
          try clear c16
          try clear c16b0
          try clear c18
          try clear c18b0
          try clear p19
          try clear q19
          try clear hx19
          try clear hcz13_0
          try clear hcz13_1
          try clear hcz13_2
          try clear hcz13_3
          try clear hcz14_0
          try clear hcz14_1
          try clear hcz14_2
          try clear hcz14_3
          try clear hfz13_0
          try clear hfz13_1
          try clear hfz13_2
          try clear hfz13_3
          try clear hfz14_0
          try clear hfz14_1
          try clear hfz14_2
          try clear hfz14_3
          try clear p1
          try clear p10
          try clear p19
          try clear p2
          try clear q1
          try clear q10
          try clear q19
          obtain ⟨kq, x8_14, rfl, HA, HJ14, BK207, BK208, HB⟩ := hcut
          cases kq with
          | zero => exact absurd HA.out (by simp [runnelref03_DocParse.j1])
          | succ kj14 =>
            have H := HA.out
            clear HA
            simp only [runnelref03_DocParse.j1] at H
            have HC20 := Aside0.mk H
            clear H
            go_upto_if 38 with (fail)
            go_cut [1] (fun v1 wc => ∃ (kq : Nat) (x1_19 : Int), v1 = .int .i64 x1_19 ∧ Aside0 (runnelref03_DocParse.j2 kq a0 x1_19 x8_14 0 0 0 0 = some (r1, r2, r3, r4, r5, r6)) ∧ Aside0 (kq ≤ kj14) ∧ Aside0 (wc.heap[gb207]? = some (.cells #[.int .u64 0, .int .u64 0, .int .u64 0, .int .u64 0] 24 (0, 0))) ∧ Aside0 (wc.heap[gb208]? = some (.cells #[.int .u64 0, .int .u64 0, .int .u64 0, .int .u64 0] 24 (0, 0))) ∧ Aside0 (Below w.heap.size w wc))
            case first =>
              have H := HC20.out
              clear HC20
              by_cases c21 : x8_14 = true
              · subst c21
                have H1 : (runnelref03_DocParse.j2 kj14 a0 (wrap64 ((wrap64 (a1 + 1)) + 1)) true 0 0 0 0) = some (r1, r2, r3, r4, r5, r6) := by rw [if_pos rfl] at H; exact H
                clear H
                have H := H1
                clear H1
                have H' := Aside0.mk H
                clear H
                go_wp2
                go_meet
                case rel => exact ⟨_, (wrap64 ((wrap64 (a1 + 1)) + 1)), (by first | rfl | (simp; done) | (simp [*]; done) | (exfalso; simp only [decide_eq_true_eq] at *; omega)), H', ⟨by have := HJ2.out; have := HJ14.out; first | omega | exact Nat.le_refl _⟩, ⟨by (with_reducible repeat (first | refine blk_drewN ?_ _ | refine blk_drew ?_ | refine blk_alloc ?_ _)); exact BK207.out⟩, ⟨by (with_reducible repeat (first | refine blk_drewN ?_ _ | refine blk_drew ?_ | refine blk_alloc ?_ _)); exact BK208.out⟩, ⟨by repeat (first | (with_reducible first | exact HB.out | apply below_alloc | apply pw_below_drewN | apply below_drew1 | refine below_set ?_ GE207.out | refine below_set ?_ GE208.out) | exact HB.out)⟩⟩
              · replace c21 := Bool.eq_false_iff.mpr c21
                subst c21
                have H1 : (runnelref03_DocParse.j2 kj14 a0 (wrap64 (a1 + 1)) false 0 0 0 0) = some (r1, r2, r3, r4, r5, r6) := by rw [if_neg (show ¬ (false = true) by decide)] at H; exact H
                clear H
                have H := H1
                clear H1
                have H' := Aside0.mk H
                clear H
                go_wp2
                go_meet
                case rel => exact ⟨_, ((wrap64 (a1 + 1))), (by first | rfl | (simp; done) | (simp [*]; done) | (exfalso; simp only [decide_eq_true_eq] at *; omega)), H', ⟨by have := HJ2.out; have := HJ14.out; first | omega | exact Nat.le_refl _⟩, ⟨by (with_reducible repeat (first | refine blk_drewN ?_ _ | refine blk_drew ?_ | refine blk_alloc ?_ _)); exact BK207.out⟩, ⟨by (with_reducible repeat (first | refine blk_drewN ?_ _ | refine blk_drew ?_ | refine blk_alloc ?_ _)); exact BK208.out⟩, ⟨by repeat (first | (with_reducible first | exact HB.out | apply below_alloc | apply pw_below_drewN | apply below_drew1 | refine below_set ?_ GE207.out | refine below_set ?_ GE208.out) | exact HB.out)⟩⟩
            case rest =>
              clear HC20
              try clear c1
              try clear p1
              try clear q1
              try clear hx1
              try clear c2
              try clear p2
              try clear c6
              try clear c6b0
              try clear p6
              try clear c7
              try clear c7b0
              try clear c8
              try clear c8b0
              try clear c9
              try clear c9b0
              try clear p10
              try clear q10
              try clear hx10
              try clear c11
              try clear c12
              try clear c16
              try clear c16b0
              try clear c18
              try clear c18b0
              try clear p19
              try clear q19
              try clear hx19
              try clear c21
              try clear hcz13_0
              try clear hcz13_1
              try clear hcz13_2
              try clear hcz13_3
              try clear hcz14_0
              try clear hcz14_1
              try clear hcz14_2
              try clear hcz14_3
              try clear hfz13_0
              try clear hfz13_1
              try clear hfz13_2
              try clear hfz13_3
              try clear hfz14_0
              try clear hfz14_1
              try clear hfz14_2
              try clear hfz14_3
              try clear p1
              try clear p10
              try clear p19
              try clear p2
              try clear p6
              try clear q1
              try clear q10
              try clear q19
              obtain ⟨kq, x1_19, rfl, HA, HJ19, BK207, BK208, HB⟩ := hcut
              cases kq with
              | zero => exact absurd HA.out (by simp [runnelref03_DocParse.j2])
              | succ kj19 =>
                have H := HA.out
                clear HA
                simp only [runnelref03_DocParse.j2] at H
                have H' := Aside0.mk H
                clear H
                go_wp2
                go_loopg [1, 9] kj19 (fun kq v1 v9 w' => ∃ (x1_4 : Int) (x9_4 : Int) (x208000_4 : Int) (x208001_4 : Int) (x208002_4 : Int) (x208003_4 : Int) (x209000_4 : Int) (x209001_4 : Int) (x209002_4 : Int) (x209003_4 : Int), v1 = .int .i64 x1_4 ∧ v9 = .int .i64 x9_4 ∧ Aside0 (runnelref03_DocParse.l0 kq a0 x1_4 x8_14 x9_4 x209000_4 x209001_4 x209002_4 x209003_4 = some (r1, r2, r3, r4, r5, r6)) ∧ Aside0 (kq ≤ kj19) ∧ Aside0 (w'.heap[gb207]? = some (.cells #[.int .u64 x208000_4, .int .u64 x208001_4, .int .u64 x208002_4, .int .u64 x208003_4] 24 (0, 0))) ∧ Aside0 (w'.heap[gb208]? = some (.cells #[.int .u64 x209000_4, .int .u64 x209001_4, .int .u64 x209002_4, .int .u64 x209003_4] 24 (0, 0))) ∧ Aside0 (Below w.heap.size w w'))
                case atStart => exact ⟨(x1_19), (0), (0), (0), (0), (0), (0), (0), (0), (0), (by first | rfl | (simp; done) | (simp [*]; done) | (exfalso; simp only [decide_eq_true_eq] at *; omega)), (by first | rfl | (simp; done) | (simp [*]; done) | (exfalso; simp only [decide_eq_true_eq] at *; omega)), H', ⟨Nat.le_refl _⟩, ⟨by (with_reducible repeat (first | refine blk_drewN ?_ _ | refine blk_drew ?_ | refine blk_alloc ?_ _)); exact BK207.out⟩, ⟨by (with_reducible repeat (first | refine blk_drewN ?_ _ | refine blk_drew ?_ | refine blk_alloc ?_ _)); exact BK208.out⟩, ⟨by repeat (first | (with_reducible first | exact HB.out | apply below_alloc | apply pw_below_drewN | apply below_drew1 | refine below_set ?_ GE207.out | refine below_set ?_ GE208.out) | exact HB.out)⟩⟩
                case round =>
                  clear H'
                  try clear c1
                  try clear p1
                  try clear q1
                  try clear hx1
                  try clear c2
                  try clear p2
                  try clear c6
                  try clear c6b0
                  try clear p6
                  try clear c7
                  try clear c7b0
                  try clear c8
                  try clear c8b0
                  try clear c9
                  try clear c9b0
                  try clear p10
                  try clear q10
                  try clear hx10
                  try clear c11
                  try clear c12
                  try clear c16
                  try clear c16b0
                  try clear c18
                  try clear c18b0
                  try clear p19
                  try clear q19
                  try clear hx19
                  try clear c21
                  try clear hcz13_0
                  try clear hcz13_1
                  try clear hcz13_2
                  try clear hcz13_3
                  try clear hcz14_0
                  try clear hcz14_1
                  try clear hcz14_2
                  try clear hcz14_3
                  try clear hfz13_0
                  try clear hfz13_1
                  try clear hfz13_2
                  try clear hfz13_3
                  try clear hfz14_0
                  try clear hfz14_1
                  try clear hfz14_2
                  try clear hfz14_3
                  try clear p1
                  try clear p10
                  try clear p19
                  try clear p2
                  try clear p6
                  try clear q1
                  try clear q10
                  try clear q19
                  obtain ⟨x1_4, x9_4, x208000_4, x208001_4, x208002_4, x208003_4, x209000_4, x209001_4, x209002_4, x209003_4, rfl, rfl, HA, HK4, BK207, BK208, HB⟩ := hrel
                  cases gk with
                  | zero => exact absurd HA.out (by simp [runnelref03_DocParse.l0])
                  | succ k4 =>
                    have H := HA.out
                    clear HA
                    simp only [runnelref03_DocParse.l0] at H
                    by_cases c22 : x1_4 ≥ (a0.size : Int)
                    · rw [if_pos c22] at H
                      have c22b0 : decide ((a0.size : Int) ≤ x1_4) = true := decide_eq_true c22
                      clear c22
                      simp only [Option.some.injEq, Prod.mk.injEq] at H
                      obtain ⟨rfl, rfl, rfl, rfl, rfl, rfl⟩ := H
                      have hnb23 := NB207_208.out
                      have hnc23 := NB208_207.out
                      have hcz24_0 : wr.cell? ⟨gb207, 0, none⟩ = some (.int .u64 x208000_4) := (blk_cell BK207.out 0).trans rfl
                      have hcz24_1 : wr.cell? ⟨gb207, 1, none⟩ = some (.int .u64 x208001_4) := (blk_cell BK207.out 1).trans rfl
                      have hcz24_2 : wr.cell? ⟨gb207, 2, none⟩ = some (.int .u64 x208002_4) := (blk_cell BK207.out 2).trans rfl
                      have hcz24_3 : wr.cell? ⟨gb207, 3, none⟩ = some (.int .u64 x208003_4) := (blk_cell BK207.out 3).trans rfl
                      have hfz24_0 := blk_frozen BK207.out 0
                      have hfz24_1 := blk_frozen BK207.out 1
                      have hfz24_2 := blk_frozen BK207.out 2
                      have hfz24_3 := blk_frozen BK207.out 3
                      go_wp2
                      refine bodyPost_ret (results_ctt rfl _ _ gb207 24 #[.int .u64 0, .int .u64 0, .int .u64 0, .int .u64 0] (0, 0) _ rfl (by (with_reducible repeat (first | refine blk_drewN ?_ _ | refine blk_drew ?_ | refine blk_alloc ?_ _)); refine blk_put (cs := #[.int .u64 0, .int .u64 0, .int .u64 0, .int .u64 x208003_4]) ?_ 3 _ rfl; (with_reducible repeat (first | refine blk_drewN ?_ _ | refine blk_drew ?_ | refine blk_alloc ?_ _)); refine blk_put (cs := #[.int .u64 0, .int .u64 0, .int .u64 x208002_4, .int .u64 x208003_4]) ?_ 2 _ rfl; (with_reducible repeat (first | refine blk_drewN ?_ _ | refine blk_drew ?_ | refine blk_alloc ?_ _)); refine blk_put (cs := #[.int .u64 0, .int .u64 x208001_4, .int .u64 x208002_4, .int .u64 x208003_4]) ?_ 1 _ rfl; (with_reducible repeat (first | refine blk_drewN ?_ _ | refine blk_drew ?_ | refine blk_alloc ?_ _)); refine blk_put (cs := #[.int .u64 x208000_4, .int .u64 x208001_4, .int .u64 x208002_4, .int .u64 x208003_4]) ?_ 0 _ rfl; (with_reducible repeat (first | refine blk_drewN ?_ _ | refine blk_drew ?_ | refine blk_alloc ?_ _)); exact BK207.out) Tryd.underlying24 rfl (by kernel_rfl)) rfl ?_
                      exact ⟨by first | rfl | (simp only [wrap_wrap]; done) | (simp only [wrap_wrap]; rfl) | (simp [errW_none, errW_some] <;> rfl) | (simp [*, errW_none, errW_some] <;> rfl), by repeat (first | (with_reducible first | exact HB.out | apply below_alloc | apply pw_below_drewN | apply below_drew1 | refine below_set ?_ GE207.out | refine below_set ?_ GE208.out) | exact HB.out)⟩
                    · rw [if_neg c22] at H
                      have c22b0 : decide ((a0.size : Int) ≤ x1_4) = false := decide_eq_false c22
                      clear c22
                      have HC25 := Aside0.mk H
                      clear H
                      go_upto_region 12 with (fail)
                      go_cut [55] (fun v55 wc => ∃ (kq : Nat) (x55_24 : Bool), v55 = .bool x55_24 ∧ Aside0 (runnelref03_DocParse.j4 kq a0 x1_4 x8_14 x9_4 x55_24 x209000_4 x209001_4 x209002_4 x209003_4 = some (r1, r2, r3, r4, r5, r6)) ∧ Aside0 (kq ≤ k4) ∧ Aside0 (wc.heap[gb207]? = some (.cells #[.int .u64 x208000_4, .int .u64 x208001_4, .int .u64 x208002_4, .int .u64 x208003_4] 24 (0, 0))) ∧ Aside0 (wc.heap[gb208]? = some (.cells #[.int .u64 x209000_4, .int .u64 x209001_4, .int .u64 x209002_4, .int .u64 x209003_4] 24 (0, 0))) ∧ Aside0 (Below w.heap.size w wc))
                      case first =>
                        have H := HC25.out
                        clear HC25
                        by_cases c26 : x9_4 > 0
                        · rw [if_pos c26] at H
                          have c26b0 : decide (0 < x9_4) = true := decide_eq_true c26
                          clear c26
                          (first | rw [c26b0] | (simp only [i64_w, i32_w]; rw [c26b0]) | skip)
                          by_cases c27 : 0 ≤ x1_4
                          · rw [if_pos c27] at H
                            have c27b0 : decide (0 ≤ x1_4) = true := decide_eq_true c27
                            clear c27
                            by_cases c28 : x1_4 < (a0.size : Int)
                            · rw [if_pos c28] at H
                              have c28b0 : decide (x1_4 < (a0.size : Int)) = true := decide_eq_true c28
                              clear c28
                              have H' := Aside0.mk H
                              clear H
                              have p29 : 0 ≤ (x1_4 : Int) := of_decide_eq_true (by first | (with_reducible assumption) | assumption)
                              have q29 : x1_4 < (a0.size : Int) := of_decide_eq_true (by first | (with_reducible assumption) | assumption)
                              have hx29 := bt_at a0 x1_4
                              replace p29 := eq_true p29
                              replace q29 := eq_true q29
                              go_wp2
                              go_meet
                              case rel => exact ⟨_, (((bt a0 x1_4) == 93)), (by first | rfl | (simp; done) | (simp [*]; done) | (exfalso; simp only [decide_eq_true_eq] at *; omega)), H', ⟨by have := HJ2.out; have := HJ14.out; have := HJ19.out; have := HK4.out; first | omega | exact Nat.le_refl _⟩, ⟨by (with_reducible repeat (first | refine blk_drewN ?_ _ | refine blk_drew ?_ | refine blk_alloc ?_ _)); exact BK207.out⟩, ⟨by (with_reducible repeat (first | refine blk_drewN ?_ _ | refine blk_drew ?_ | refine blk_alloc ?_ _)); exact BK208.out⟩, ⟨by repeat (first | (with_reducible first | exact HB.out | apply below_alloc | apply pw_below_drewN | apply below_drew1 | refine below_set ?_ GE207.out | refine below_set ?_ GE208.out) | exact HB.out)⟩⟩
                            · rw [if_neg c28] at H
                              exact absurd H (by simp)
                          · rw [if_neg c27] at H
                            exact absurd H (by simp)
                        · rw [if_neg c26] at H
                          have c26b0 : decide (0 < x9_4) = false := decide_eq_false c26
                          clear c26
                          (first | rw [c26b0] | (simp only [i64_w, i32_w]; rw [c26b0]) | skip)
                          have H' := Aside0.mk H
                          clear H
                          go_wp2
                          go_meet
                          case rel => exact ⟨_, (false), (by first | rfl | (simp; done) | (simp [*]; done) | (exfalso; simp only [decide_eq_true_eq] at *; omega)), H', ⟨by have := HJ2.out; have := HJ14.out; have := HJ19.out; have := HK4.out; first | omega | exact Nat.le_refl _⟩, ⟨by (with_reducible repeat (first | refine blk_drewN ?_ _ | refine blk_drew ?_ | refine blk_alloc ?_ _)); exact BK207.out⟩, ⟨by (with_reducible repeat (first | refine blk_drewN ?_ _ | refine blk_drew ?_ | refine blk_alloc ?_ _)); exact BK208.out⟩, ⟨by repeat (first | (with_reducible first | exact HB.out | apply below_alloc | apply pw_below_drewN | apply below_drew1 | refine below_set ?_ GE207.out | refine below_set ?_ GE208.out) | exact HB.out)⟩⟩
                      case rest =>
                        clear HC25
                        try clear c1
                        try clear p1
                        try clear q1
                        try clear hx1
                        try clear c2
                        try clear p2
                        try clear q2
                        try clear hx2
                        try clear c6
                        try clear c6b0
                        try clear p6
                        try clear c7
                        try clear c7b0
                        try clear c8
                        try clear c8b0
                        try clear c9
                        try clear c9b0
                        try clear p10
                        try clear q10
                        try clear hx10
                        try clear c11
                        try clear c12
                        try clear c16
                        try clear c16b0
                        try clear c18
                        try clear c18b0
                        try clear p19
                        try clear q19
                        try clear hx19
                        try clear c21
                        try clear c22
                        try clear c22b0
                        try clear c23
                        try clear c26
                        try clear c26b0
                        try clear c27
                        try clear c27b0
                        try clear c28
                        try clear c28b0
                        try clear p29
                        try clear q29
                        try clear hx29
                        try clear hcz13_0
                        try clear hcz13_1
                        try clear hcz13_2
                        try clear hcz13_3
                        try clear hcz14_0
                        try clear hcz14_1
                        try clear hcz14_2
                        try clear hcz14_3
                        try clear hcz24_0
                        try clear hcz24_1
                        try clear hcz24_2
                        try clear hcz24_3
                        try clear hfz13_0
                        try clear hfz13_1
                        try clear hfz13_2
                        try clear hfz13_3
                        try clear hfz14_0
                        try clear hfz14_1
                        try clear hfz14_2
                        try clear hfz14_3
                        try clear hfz24_0
                        try clear hfz24_1
                        try clear hfz24_2
                        try clear hfz24_3
                        try clear p1
                        try clear p10
                        try clear p19
                        try clear p2
                        try clear p29
                        try clear p6
                        try clear q1
                        try clear q10
                        try clear q19
                        try clear q29
                        obtain ⟨kq, x55_24, rfl, HA, HJ24, BK207, BK208, HB⟩ := hcut
                        cases kq with
                        | zero => exact absurd HA.out (by simp [runnelref03_DocParse.j4])
                        | succ kj24 =>
                          have H := HA.out
                          clear HA
                          simp only [runnelref03_DocParse.j4] at H
                          by_cases c30 : x55_24 = true
                          · subst c30
                            have H1 : (if x8_14 = true then ((runnelref02_Not.f kj24 x209000_4 x209001_4 x209002_4 x209003_4).bind fun bt209 => (some (bt209.1, bt209.2.1, bt209.2.2.1, bt209.2.2.2, wrap64 (x1_4 + 1), 0))) else (some (x209000_4, x209001_4, x209002_4, x209003_4, wrap64 (x1_4 + 1), 0))) = some (r1, r2, r3, r4, r5, r6) := by rw [if_pos rfl] at H; exact H
                            clear H
                            have H := H1
                            clear H1
                            by_cases c31 : x8_14 = true
                            · subst c31
                              have H1 : ((runnelref02_Not.f kj24 x209000_4 x209001_4 x209002_4 x209003_4).bind fun bt209 => (some (bt209.1, bt209.2.1, bt209.2.2.1, bt209.2.2.2, wrap64 (x1_4 + 1), 0))) = some (r1, r2, r3, r4, r5, r6) := by rw [if_pos rfl] at H; exact H
                              clear H
                              have H := H1
                              clear H1
                              replace H := Option.bind_eq_some_iff.mp H
                              obtain ⟨⟨t209, t210, t211, t212⟩, A320, H⟩ := H
                              replace H : (some (t209, t210, t211, t212, wrap64 (x1_4 + 1), 0)) = some (r1, r2, r3, r4, r5, r6) := H
                              have A32 := Aside0.mk A320
                              clear A320
                              simp only [Option.some.injEq, Prod.mk.injEq] at H
                              obtain ⟨rfl, rfl, rfl, rfl, rfl, rfl⟩ := H
                              have hnb33 := NB208_207.out
                              have hnc33 := NB207_208.out
                              have hcz34_0 : wc.cell? ⟨gb208, 0, none⟩ = some (.int .u64 x209000_4) := (blk_cell BK208.out 0).trans rfl
                              have hcz34_1 : wc.cell? ⟨gb208, 1, none⟩ = some (.int .u64 x209001_4) := (blk_cell BK208.out 1).trans rfl
                              have hcz34_2 : wc.cell? ⟨gb208, 2, none⟩ = some (.int .u64 x209002_4) := (blk_cell BK208.out 2).trans rfl
                              have hcz34_3 : wc.cell? ⟨gb208, 3, none⟩ = some (.int .u64 x209003_4) := (blk_cell BK208.out 3).trans rfl
                              have hfz34_0 := blk_frozen BK208.out 0
                              have hfz34_1 := blk_frozen BK208.out 1
                              have hfz34_2 := blk_frozen BK208.out 2
                              have hfz34_3 := blk_frozen BK208.out 3
                              go_wp2_with (first | ((with_reducible refine gate_callee (f := 15) rfl ?_); refine goesL_ (some 73) rfl rfl Tryd.func15 (by kernel_rfl) rfl #[.agg #[.int .u64 x209000_4, .int .u64 x209001_4, .int .u64 x209002_4, .int .u64 x209003_4]] rfl (by (try simp only [List.map_toArray, List.map_cons, List.map_nil]); first | done | rfl | (simp only [List.length_drop, List.length_take]; rfl)) ?_; (with_reducible refine (runnelref02_Not.calls kj24 x209000_4 x209001_4 x209002_4 x209003_4 t209 t210 t211 t212 _ A32.out).mono ?_); rintro e w35 ⟨rfl, hb⟩; refine ⟨_, rfl, ?_⟩; have n0_ := Aside0.mk (blk_below (g := gb207) (o := .cells #[.int .u64 x208000_4, .int .u64 x208001_4, .int .u64 x208002_4, .int .u64 x208003_4] 24 (0, 0)) (by (with_reducible repeat (first | refine blk_drewN ?_ _ | refine blk_drew ?_ | refine blk_alloc ?_ _)); exact BK207.out) hb); have n1_ := Aside0.mk (blk_below (g := gb208) (o := .cells #[.int .u64 x209000_4, .int .u64 x209001_4, .int .u64 x209002_4, .int .u64 x209003_4] 24 (0, 0)) (by (with_reducible repeat (first | refine blk_drewN ?_ _ | refine blk_drew ?_ | refine blk_alloc ?_ _)); exact BK208.out) hb); have n2_ := Aside0.mk (below_step (by repeat (first | (with_reducible first | exact HB.out | apply below_alloc | apply pw_below_drewN | apply below_drew1 | refine below_set ?_ GE207.out | refine below_set ?_ GE208.out) | exact HB.out)) hb); clear BK207; clear BK208; clear HB; have BK207 := n0_; have BK208 := n1_; have HB := n2_; clear n0_ n1_ n2_; (try clear hb); (try clear hb2); (try clear hk); (try clear hi); have hcz36_0 : w35.cell? ⟨gb208, 0, none⟩ = some (.int .u64 x209000_4) := (blk_cell BK208.out 0).trans rfl; have hcz36_1 : w35.cell? ⟨gb208, 1, none⟩ = some (.int .u64 x209001_4) := (blk_cell BK208.out 1).trans rfl; have hcz36_2 : w35.cell? ⟨gb208, 2, none⟩ = some (.int .u64 x209002_4) := (blk_cell BK208.out 2).trans rfl; have hcz36_3 : w35.cell? ⟨gb208, 3, none⟩ = some (.int .u64 x209003_4) := (blk_cell BK208.out 3).trans rfl; have hfz36_0 := blk_frozen BK208.out 0; have hfz36_1 := blk_frozen BK208.out 1; have hfz36_2 := blk_frozen BK208.out 2; have hfz36_3 := blk_frozen BK208.out 3; have hcz37_0 : w35.cell? ⟨gb207, 0, none⟩ = some (.int .u64 x208000_4) := (blk_cell BK207.out 0).trans rfl; have hcz37_1 : w35.cell? ⟨gb207, 1, none⟩ = some (.int .u64 x208001_4) := (blk_cell BK207.out 1).trans rfl; have hcz37_2 : w35.cell? ⟨gb207, 2, none⟩ = some (.int .u64 x208002_4) := (blk_cell BK207.out 2).trans rfl; have hcz37_3 : w35.cell? ⟨gb207, 3, none⟩ = some (.int .u64 x208003_4) := (blk_cell BK207.out 3).trans rfl; have hfz37_0 := blk_frozen BK207.out 0; have hfz37_1 := blk_frozen BK207.out 1; have hfz37_2 := blk_frozen BK207.out 2; have hfz37_3 := blk_frozen BK207.out 3))
                              refine bodyPost_ret (results_ctt rfl _ _ gb207 24 #[.int .u64 t209, .int .u64 t210, .int .u64 t211, .int .u64 t212] (0, 0) _ rfl (by (with_reducible repeat (first | refine blk_drewN ?_ _ | refine blk_drew ?_ | refine blk_alloc ?_ _)); refine blk_put (cs := #[.int .u64 t209, .int .u64 t210, .int .u64 t211, .int .u64 x208003_4]) ?_ 3 _ rfl; (with_reducible repeat (first | refine blk_drewN ?_ _ | refine blk_drew ?_ | refine blk_alloc ?_ _)); refine blk_put (cs := #[.int .u64 t209, .int .u64 t210, .int .u64 x208002_4, .int .u64 x208003_4]) ?_ 2 _ rfl; (with_reducible repeat (first | refine blk_drewN ?_ _ | refine blk_drew ?_ | refine blk_alloc ?_ _)); refine blk_put (cs := #[.int .u64 t209, .int .u64 x208001_4, .int .u64 x208002_4, .int .u64 x208003_4]) ?_ 1 _ rfl; (with_reducible repeat (first | refine blk_drewN ?_ _ | refine blk_drew ?_ | refine blk_alloc ?_ _)); refine blk_put (cs := #[.int .u64 x208000_4, .int .u64 x208001_4, .int .u64 x208002_4, .int .u64 x208003_4]) ?_ 0 _ rfl; (with_reducible repeat (first | refine blk_drewN ?_ _ | refine blk_drew ?_ | refine blk_alloc ?_ _)); refine blk_far ?_ NB207_208.out _; (with_reducible repeat (first | refine blk_drewN ?_ _ | refine blk_drew ?_ | refine blk_alloc ?_ _)); refine blk_far ?_ NB207_208.out _; (with_reducible repeat (first | refine blk_drewN ?_ _ | refine blk_drew ?_ | refine blk_alloc ?_ _)); refine blk_far ?_ NB207_208.out _; (with_reducible repeat (first | refine blk_drewN ?_ _ | refine blk_drew ?_ | refine blk_alloc ?_ _)); refine blk_far ?_ NB207_208.out _; (with_reducible repeat (first | refine blk_drewN ?_ _ | refine blk_drew ?_ | refine blk_alloc ?_ _)); exact BK207.out) Tryd.underlying24 rfl (by kernel_rfl)) rfl ?_
                              exact ⟨by first | rfl | (simp only [wrap_wrap]; done) | (simp only [wrap_wrap]; rfl) | (simp [errW_none, errW_some] <;> rfl) | (simp [*, errW_none, errW_some] <;> rfl), by repeat (first | (with_reducible first | exact HB.out | apply below_alloc | apply pw_below_drewN | apply below_drew1 | refine below_set ?_ GE207.out | refine below_set ?_ GE208.out) | exact HB.out)⟩
                            · replace c31 := Bool.eq_false_iff.mpr c31
                              subst c31
                              have H1 : (some (x209000_4, x209001_4, x209002_4, x209003_4, wrap64 (x1_4 + 1), 0)) = some (r1, r2, r3, r4, r5, r6) := by rw [if_neg (show ¬ (false = true) by decide)] at H; exact H
                              clear H
                              have H := H1
                              clear H1
                              simp only [Option.some.injEq, Prod.mk.injEq] at H
                              obtain ⟨rfl, rfl, rfl, rfl, rfl, rfl⟩ := H
                              have hnb38 := NB208_207.out
                              have hnc38 := NB207_208.out
                              have hcz39_0 : wc.cell? ⟨gb208, 0, none⟩ = some (.int .u64 x209000_4) := (blk_cell BK208.out 0).trans rfl
                              have hcz39_1 : wc.cell? ⟨gb208, 1, none⟩ = some (.int .u64 x209001_4) := (blk_cell BK208.out 1).trans rfl
                              have hcz39_2 : wc.cell? ⟨gb208, 2, none⟩ = some (.int .u64 x209002_4) := (blk_cell BK208.out 2).trans rfl
                              have hcz39_3 : wc.cell? ⟨gb208, 3, none⟩ = some (.int .u64 x209003_4) := (blk_cell BK208.out 3).trans rfl
                              have hfz39_0 := blk_frozen BK208.out 0
                              have hfz39_1 := blk_frozen BK208.out 1
                              have hfz39_2 := blk_frozen BK208.out 2
                              have hfz39_3 := blk_frozen BK208.out 3
                              have hcz40_0 : wc.cell? ⟨gb207, 0, none⟩ = some (.int .u64 x208000_4) := (blk_cell BK207.out 0).trans rfl
                              have hcz40_1 : wc.cell? ⟨gb207, 1, none⟩ = some (.int .u64 x208001_4) := (blk_cell BK207.out 1).trans rfl
                              have hcz40_2 : wc.cell? ⟨gb207, 2, none⟩ = some (.int .u64 x208002_4) := (blk_cell BK207.out 2).trans rfl
                              have hcz40_3 : wc.cell? ⟨gb207, 3, none⟩ = some (.int .u64 x208003_4) := (blk_cell BK207.out 3).trans rfl
                              have hfz40_0 := blk_frozen BK207.out 0
                              have hfz40_1 := blk_frozen BK207.out 1
                              have hfz40_2 := blk_frozen BK207.out 2
                              have hfz40_3 := blk_frozen BK207.out 3
                              go_wp2
                              refine bodyPost_ret (results_ctt rfl _ _ gb207 24 #[.int .u64 x209000_4, .int .u64 x209001_4, .int .u64 x209002_4, .int .u64 x209003_4] (0, 0) _ rfl (by (with_reducible repeat (first | refine blk_drewN ?_ _ | refine blk_drew ?_ | refine blk_alloc ?_ _)); refine blk_put (cs := #[.int .u64 x209000_4, .int .u64 x209001_4, .int .u64 x209002_4, .int .u64 x208003_4]) ?_ 3 _ rfl; (with_reducible repeat (first | refine blk_drewN ?_ _ | refine blk_drew ?_ | refine blk_alloc ?_ _)); refine blk_put (cs := #[.int .u64 x209000_4, .int .u64 x209001_4, .int .u64 x208002_4, .int .u64 x208003_4]) ?_ 2 _ rfl; (with_reducible repeat (first | refine blk_drewN ?_ _ | refine blk_drew ?_ | refine blk_alloc ?_ _)); refine blk_put (cs := #[.int .u64 x209000_4, .int .u64 x208001_4, .int .u64 x208002_4, .int .u64 x208003_4]) ?_ 1 _ rfl; (with_reducible repeat (first | refine blk_drewN ?_ _ | refine blk_drew ?_ | refine blk_alloc ?_ _)); refine blk_put (cs := #[.int .u64 x208000_4, .int .u64 x208001_4, .int .u64 x208002_4, .int .u64 x208003_4]) ?_ 0 _ rfl; (with_reducible repeat (first | refine blk_drewN ?_ _ | refine blk_drew ?_ | refine blk_alloc ?_ _)); exact BK207.out) Tryd.underlying24 rfl (by kernel_rfl)) rfl ?_
                              exact ⟨by first | rfl | (simp only [wrap_wrap]; done) | (simp only [wrap_wrap]; rfl) | (simp [errW_none, errW_some] <;> rfl) | (simp [*, errW_none, errW_some] <;> rfl), by repeat (first | (with_reducible first | exact HB.out | apply below_alloc | apply pw_below_drewN | apply below_drew1 | refine below_set ?_ GE207.out | refine below_set ?_ GE208.out) | exact HB.out)⟩
                          · replace c30 := Bool.eq_false_iff.mpr c30
                            subst c30
                            have H1 : ((runnelref03_ranged.f kj24 a0 x1_4).bind fun bt213 => (if bt213.2.2.2.2.2.2.2 = 0 then ((runnelref02_Or.f kj24 x209000_4 x209001_4 x209002_4 x209003_4 bt213.1 bt213.2.1 bt213.2.2.1 bt213.2.2.2.1).bind fun bt222 => (runnelref03_DocParse.l0 kj24 a0 bt213.2.2.2.2.2.2.1 x8_14 (wrap64 (x9_4 + 1)) bt222.1 bt222.2.1 bt222.2.2.1 bt222.2.2.2)) else (some (0, 0, 0, 0, 0, bt213.2.2.2.2.2.2.2)))) = some (r1, r2, r3, r4, r5, r6) := by rw [if_neg (show ¬ (false = true) by decide)] at H; exact H
                            clear H
                            have H := H1
                            clear H1
                            replace H := Option.bind_eq_some_iff.mp H
                            obtain ⟨⟨t213, t214, t215, t216, t217, t218, t219, t220⟩, A410, H⟩ := H
                            replace H : (if t220 = 0 then ((runnelref02_Or.f kj24 x209000_4 x209001_4 x209002_4 x209003_4 t213 t214 t215 t216).bind fun bt222 => (runnelref03_DocParse.l0 kj24 a0 t219 x8_14 (wrap64 (x9_4 + 1)) bt222.1 bt222.2.1 bt222.2.2.1 bt222.2.2.2)) else (some (0, 0, 0, 0, 0, t220))) = some (r1, r2, r3, r4, r5, r6) := H
                            have A41 := Aside0.mk A410
                            clear A410
                            by_cases c42 : t220 = 0
                            · rw [if_pos c42] at H
                              have c42b0 : (t220 == 0) = true := beq_iff_eq.mpr c42
                              have c42b1 : (t220 != 0) = false := bne_eq_false_iff_eq.mpr c42
                              clear c42
                              replace H := Option.bind_eq_some_iff.mp H
                              obtain ⟨⟨t222, t223, t224, t225⟩, A430, H⟩ := H
                              replace H : (runnelref03_DocParse.l0 kj24 a0 t219 x8_14 (wrap64 (x9_4 + 1)) t222 t223 t224 t225) = some (r1, r2, r3, r4, r5, r6) := H
                              have A43 := Aside0.mk A430
                              clear A430
                              have H' := Aside0.mk H
                              clear H
                              go_wp2_with (first | ((with_reducible refine gate_callee (f := 25) rfl ?_); refine goesL_ (some 58) rfl rfl Tryd.func25 (by kernel_rfl) rfl #[.string a0, .int .i64 x1_4] rfl (by (try simp only [List.map_toArray, List.map_cons, List.map_nil]); first | done | rfl | (simp only [List.length_drop, List.length_take]; rfl)) ?_; (with_reducible refine (runnelref03_ranged.calls kj24 a0 x1_4 t213 t214 t215 t216 t217 t218 t219 t220 _ A41.out).mono ?_); rintro e w44 ⟨rfl, hb⟩; refine ⟨_, rfl, ?_⟩; have n0_ := Aside0.mk (blk_below (g := gb207) (o := .cells #[.int .u64 x208000_4, .int .u64 x208001_4, .int .u64 x208002_4, .int .u64 x208003_4] 24 (0, 0)) (by (with_reducible repeat (first | refine blk_drewN ?_ _ | refine blk_drew ?_ | refine blk_alloc ?_ _)); exact BK207.out) hb); have n1_ := Aside0.mk (blk_below (g := gb208) (o := .cells #[.int .u64 x209000_4, .int .u64 x209001_4, .int .u64 x209002_4, .int .u64 x209003_4] 24 (0, 0)) (by (with_reducible repeat (first | refine blk_drewN ?_ _ | refine blk_drew ?_ | refine blk_alloc ?_ _)); exact BK208.out) hb); have n2_ := Aside0.mk (below_step (by repeat (first | (with_reducible first | exact HB.out | apply below_alloc | apply pw_below_drewN | apply below_drew1 | refine below_set ?_ GE207.out | refine below_set ?_ GE208.out) | exact HB.out)) hb); clear BK207; clear BK208; clear HB; have BK207 := n0_; have BK208 := n1_; have HB := n2_; clear n0_ n1_ n2_; (try clear hb); (try clear hb2); (try clear hk); (try clear hi)) | ((with_reducible refine gate_dst (N := 10) rfl ?_); (try (refine gate_guard (by rfl) ?_; dsimp only)); refine box_event ?hg (N := 10) ?hd (cs := #[.int .u64 0, .int .u64 0, .int .u64 0, .int .u64 0, .int .u8 0, .bool false, .int .i64 0, .int .i64 0]) (t := 59) ?hr ?_; (case hd => rfl); (case hg => rfl); (case hr => first | (go_simp; done) | (go_simp; rfl)); intro gb221 hg w45 hbox hb; have n0_ := Aside0.mk (blk_below (g := gb207) (o := .cells #[.int .u64 x208000_4, .int .u64 x208001_4, .int .u64 x208002_4, .int .u64 x208003_4] 24 (0, 0)) (by (with_reducible repeat (first | refine blk_drewN ?_ _ | refine blk_drew ?_ | refine blk_alloc ?_ _)); exact BK207.out) hb); have n1_ := Aside0.mk (blk_below (g := gb208) (o := .cells #[.int .u64 x209000_4, .int .u64 x209001_4, .int .u64 x209002_4, .int .u64 x209003_4] 24 (0, 0)) (by (with_reducible repeat (first | refine blk_drewN ?_ _ | refine blk_drew ?_ | refine blk_alloc ?_ _)); exact BK208.out) hb); have n2_ := Aside0.mk (below_step (by repeat (first | (with_reducible first | exact HB.out | apply below_alloc | apply pw_below_drewN | apply below_drew1 | refine below_set ?_ GE207.out | refine below_set ?_ GE208.out) | exact HB.out)) hb); have n3_ := Aside0.mk (hbox); have n4_ := Aside0.mk ((by rw [hg]; exact (below_size (by repeat (first | (with_reducible first | exact HB.out | apply below_alloc | apply pw_below_drewN | apply below_drew1 | refine below_set ?_ GE207.out | refine below_set ?_ GE208.out) | exact HB.out))) : w.heap.size ≤ gb221)); have n5_ := Aside0.mk ((by rw [hg]; exact (below_size (by repeat (first | (with_reducible first | exact HB.out | apply below_alloc | apply pw_below_drewN | apply below_drew1 | refine below_set ?_ GE207.out | refine below_set ?_ GE208.out) | exact HB.out))) : w.heap.size ≤ gb221)); have n6_ := Aside0.mk ((by rw [hg]; exact Nat.ne_of_lt (blk_lt (g := gb207) (o := .cells #[.int .u64 x208000_4, .int .u64 x208001_4, .int .u64 x208002_4, .int .u64 x208003_4] 24 (0, 0)) (by (with_reducible repeat (first | refine blk_drewN ?_ _ | refine blk_drew ?_ | refine blk_alloc ?_ _)); exact BK207.out)) : gb207 ≠ gb221)); have n7_ := Aside0.mk ((by rw [hg]; exact Nat.ne_of_gt (blk_lt (g := gb207) (o := .cells #[.int .u64 x208000_4, .int .u64 x208001_4, .int .u64 x208002_4, .int .u64 x208003_4] 24 (0, 0)) (by (with_reducible repeat (first | refine blk_drewN ?_ _ | refine blk_drew ?_ | refine blk_alloc ?_ _)); exact BK207.out)) : gb221 ≠ gb207)); have n8_ := Aside0.mk ((by rw [hg]; exact Nat.ne_of_lt (blk_lt (g := gb208) (o := .cells #[.int .u64 x209000_4, .int .u64 x209001_4, .int .u64 x209002_4, .int .u64 x209003_4] 24 (0, 0)) (by (with_reducible repeat (first | refine blk_drewN ?_ _ | refine blk_drew ?_ | refine blk_alloc ?_ _)); exact BK208.out)) : gb208 ≠ gb221)); have n9_ := Aside0.mk ((by rw [hg]; exact Nat.ne_of_gt (blk_lt (g := gb208) (o := .cells #[.int .u64 x209000_4, .int .u64 x209001_4, .int .u64 x209002_4, .int .u64 x209003_4] 24 (0, 0)) (by (with_reducible repeat (first | refine blk_drewN ?_ _ | refine blk_drew ?_ | refine blk_alloc ?_ _)); exact BK208.out)) : gb221 ≠ gb208)); clear BK207; clear BK208; clear HB; have BK207 := n0_; have BK208 := n1_; have HB := n2_; have BK221 := n3_; have GW221 := n4_; have GE221 := n5_; have NB207_221 := n6_; have NB221_207 := n7_; have NB208_221 := n8_; have NB221_208 := n9_; clear n0_ n1_ n2_ n3_ n4_ n5_ n6_ n7_ n8_ n9_; clear hb hbox hg; have hnb46 := NB221_207.out; have hnc46 := NB207_221.out; have hnb47 := NB221_208.out; have hnc47 := NB208_221.out; have hcz48_0 : w45.cell? ⟨gb221, 0, none⟩ = some (.int .u64 0) := (blk_cell BK221.out 0).trans rfl; have hcz48_1 : w45.cell? ⟨gb221, 1, none⟩ = some (.int .u64 0) := (blk_cell BK221.out 1).trans rfl; have hcz48_2 : w45.cell? ⟨gb221, 2, none⟩ = some (.int .u64 0) := (blk_cell BK221.out 2).trans rfl; have hcz48_3 : w45.cell? ⟨gb221, 3, none⟩ = some (.int .u64 0) := (blk_cell BK221.out 3).trans rfl; have hcz48_4 : w45.cell? ⟨gb221, 4, none⟩ = some (.int .u8 0) := (blk_cell BK221.out 4).trans rfl; have hcz48_5 : w45.cell? ⟨gb221, 5, none⟩ = some (.bool false) := (blk_cell BK221.out 5).trans rfl; have hcz48_6 : w45.cell? ⟨gb221, 6, none⟩ = some (.int .i64 0) := (blk_cell BK221.out 6).trans rfl; have hcz48_7 : w45.cell? ⟨gb221, 7, none⟩ = some (.int .i64 0) := (blk_cell BK221.out 7).trans rfl; have hfz48_0 := blk_frozen BK221.out 0; have hfz48_1 := blk_frozen BK221.out 1; have hfz48_2 := blk_frozen BK221.out 2; have hfz48_3 := blk_frozen BK221.out 3; have hfz48_4 := blk_frozen BK221.out 4; have hfz48_5 := blk_frozen BK221.out 5; have hfz48_6 := blk_frozen BK221.out 6; have hfz48_7 := blk_frozen BK221.out 7; have hnb49 := NB208_207.out; have hnc49 := NB207_208.out; have hcz50_0 : w45.cell? ⟨gb208, 0, none⟩ = some (.int .u64 x209000_4) := (blk_cell BK208.out 0).trans rfl; have hcz50_1 : w45.cell? ⟨gb208, 1, none⟩ = some (.int .u64 x209001_4) := (blk_cell BK208.out 1).trans rfl; have hcz50_2 : w45.cell? ⟨gb208, 2, none⟩ = some (.int .u64 x209002_4) := (blk_cell BK208.out 2).trans rfl; have hcz50_3 : w45.cell? ⟨gb208, 3, none⟩ = some (.int .u64 x209003_4) := (blk_cell BK208.out 3).trans rfl; have hfz50_0 := blk_frozen BK208.out 0; have hfz50_1 := blk_frozen BK208.out 1; have hfz50_2 := blk_frozen BK208.out 2; have hfz50_3 := blk_frozen BK208.out 3) | ((with_reducible refine gate_callee (f := 16) rfl ?_); refine goesL_ (some 68) rfl rfl Tryd.func16 (by kernel_rfl) rfl #[.agg #[.int .u64 x209000_4, .int .u64 x209001_4, .int .u64 x209002_4, .int .u64 x209003_4], .agg #[.int .u64 t213, .int .u64 t214, .int .u64 t215, .int .u64 t216]] rfl (by (try simp only [List.map_toArray, List.map_cons, List.map_nil]); first | done | rfl | (simp only [List.length_drop, List.length_take]; rfl)) ?_; (with_reducible refine (runnelref02_Or.calls kj24 x209000_4 x209001_4 x209002_4 x209003_4 t213 t214 t215 t216 t222 t223 t224 t225 _ A43.out).mono ?_); rintro e w51 ⟨rfl, hb⟩; refine ⟨_, rfl, ?_⟩; have n0_ := Aside0.mk (blk_below (g := gb207) (o := .cells #[.int .u64 x208000_4, .int .u64 x208001_4, .int .u64 x208002_4, .int .u64 x208003_4] 24 (0, 0)) (by (with_reducible repeat (first | refine blk_drewN ?_ _ | refine blk_drew ?_ | refine blk_alloc ?_ _)); refine blk_far ?_ NB207_221.out _; (with_reducible repeat (first | refine blk_drewN ?_ _ | refine blk_drew ?_ | refine blk_alloc ?_ _)); refine blk_far ?_ NB207_221.out _; (with_reducible repeat (first | refine blk_drewN ?_ _ | refine blk_drew ?_ | refine blk_alloc ?_ _)); refine blk_far ?_ NB207_221.out _; (with_reducible repeat (first | refine blk_drewN ?_ _ | refine blk_drew ?_ | refine blk_alloc ?_ _)); refine blk_far ?_ NB207_221.out _; (with_reducible repeat (first | refine blk_drewN ?_ _ | refine blk_drew ?_ | refine blk_alloc ?_ _)); refine blk_far ?_ NB207_221.out _; (with_reducible repeat (first | refine blk_drewN ?_ _ | refine blk_drew ?_ | refine blk_alloc ?_ _)); refine blk_far ?_ NB207_221.out _; (with_reducible repeat (first | refine blk_drewN ?_ _ | refine blk_drew ?_ | refine blk_alloc ?_ _)); refine blk_far ?_ NB207_221.out _; (with_reducible repeat (first | refine blk_drewN ?_ _ | refine blk_drew ?_ | refine blk_alloc ?_ _)); refine blk_far ?_ NB207_221.out _; (with_reducible repeat (first | refine blk_drewN ?_ _ | refine blk_drew ?_ | refine blk_alloc ?_ _)); exact BK207.out) hb); have n1_ := Aside0.mk (blk_below (g := gb208) (o := .cells #[.int .u64 x209000_4, .int .u64 x209001_4, .int .u64 x209002_4, .int .u64 x209003_4] 24 (0, 0)) (by (with_reducible repeat (first | refine blk_drewN ?_ _ | refine blk_drew ?_ | refine blk_alloc ?_ _)); refine blk_far ?_ NB208_221.out _; (with_reducible repeat (first | refine blk_drewN ?_ _ | refine blk_drew ?_ | refine blk_alloc ?_ _)); refine blk_far ?_ NB208_221.out _; (with_reducible repeat (first | refine blk_drewN ?_ _ | refine blk_drew ?_ | refine blk_alloc ?_ _)); refine blk_far ?_ NB208_221.out _; (with_reducible repeat (first | refine blk_drewN ?_ _ | refine blk_drew ?_ | refine blk_alloc ?_ _)); refine blk_far ?_ NB208_221.out _; (with_reducible repeat (first | refine blk_drewN ?_ _ | refine blk_drew ?_ | refine blk_alloc ?_ _)); refine blk_far ?_ NB208_221.out _; (with_reducible repeat (first | refine blk_drewN ?_ _ | refine blk_drew ?_ | refine blk_alloc ?_ _)); refine blk_far ?_ NB208_221.out _; (with_reducible repeat (first | refine blk_drewN ?_ _ | refine blk_drew ?_ | refine blk_alloc ?_ _)); refine blk_far ?_ NB208_221.out _; (with_reducible repeat (first | refine blk_drewN ?_ _ | refine blk_drew ?_ | refine blk_alloc ?_ _)); refine blk_far ?_ NB208_221.out _; (with_reducible repeat (first | refine blk_drewN ?_ _ | refine blk_drew ?_ | refine blk_alloc ?_ _)); exact BK208.out) hb); have n2_ := Aside0.mk (blk_below (g := gb221) (o := .cells #[.int .u64 t213, .int .u64 t214, .int .u64 t215, .int .u64 t216, .int .u8 t217, .bool t218, .int .i64 t219, .int .i64 t220] 59 (0, 0)) (by (with_reducible repeat (first | refine blk_drewN ?_ _ | refine blk_drew ?_ | refine blk_alloc ?_ _)); refine blk_put (cs := #[.int .u64 t213, .int .u64 t214, .int .u64 t215, .int .u64 t216, .int .u8 t217, .bool t218, .int .i64 t219, .int .i64 0]) ?_ 7 _ rfl; (with_reducible repeat (first | refine blk_drewN ?_ _ | refine blk_drew ?_ | refine blk_alloc ?_ _)); refine blk_put (cs := #[.int .u64 t213, .int .u64 t214, .int .u64 t215, .int .u64 t216, .int .u8 t217, .bool t218, .int .i64 0, .int .i64 0]) ?_ 6 _ rfl; (with_reducible repeat (first | refine blk_drewN ?_ _ | refine blk_drew ?_ | refine blk_alloc ?_ _)); refine blk_put (cs := #[.int .u64 t213, .int .u64 t214, .int .u64 t215, .int .u64 t216, .int .u8 t217, .bool false, .int .i64 0, .int .i64 0]) ?_ 5 _ rfl; (with_reducible repeat (first | refine blk_drewN ?_ _ | refine blk_drew ?_ | refine blk_alloc ?_ _)); refine blk_put (cs := #[.int .u64 t213, .int .u64 t214, .int .u64 t215, .int .u64 t216, .int .u8 0, .bool false, .int .i64 0, .int .i64 0]) ?_ 4 _ rfl; (with_reducible repeat (first | refine blk_drewN ?_ _ | refine blk_drew ?_ | refine blk_alloc ?_ _)); refine blk_put (cs := #[.int .u64 t213, .int .u64 t214, .int .u64 t215, .int .u64 0, .int .u8 0, .bool false, .int .i64 0, .int .i64 0]) ?_ 3 _ rfl; (with_reducible repeat (first | refine blk_drewN ?_ _ | refine blk_drew ?_ | refine blk_alloc ?_ _)); refine blk_put (cs := #[.int .u64 t213, .int .u64 t214, .int .u64 0, .int .u64 0, .int .u8 0, .bool false, .int .i64 0, .int .i64 0]) ?_ 2 _ rfl; (with_reducible repeat (first | refine blk_drewN ?_ _ | refine blk_drew ?_ | refine blk_alloc ?_ _)); refine blk_put (cs := #[.int .u64 t213, .int .u64 0, .int .u64 0, .int .u64 0, .int .u8 0, .bool false, .int .i64 0, .int .i64 0]) ?_ 1 _ rfl; (with_reducible repeat (first | refine blk_drewN ?_ _ | refine blk_drew ?_ | refine blk_alloc ?_ _)); refine blk_put (cs := #[.int .u64 0, .int .u64 0, .int .u64 0, .int .u64 0, .int .u8 0, .bool false, .int .i64 0, .int .i64 0]) ?_ 0 _ rfl; (with_reducible repeat (first | refine blk_drewN ?_ _ | refine blk_drew ?_ | refine blk_alloc ?_ _)); exact BK221.out) hb); have n3_ := Aside0.mk (below_step (by repeat (first | (with_reducible first | exact HB.out | apply below_alloc | apply pw_below_drewN | apply below_drew1 | refine below_set ?_ GE207.out | refine below_set ?_ GE208.out | refine below_set ?_ GE221.out) | exact HB.out)) hb); clear BK207; clear BK208; clear BK221; clear HB; have BK207 := n0_; have BK208 := n1_; have BK221 := n2_; have HB := n3_; clear n0_ n1_ n2_ n3_; (try clear hb); (try clear hb2); (try clear hk); (try clear hi); have hcz52_0 : w51.cell? ⟨gb208, 0, none⟩ = some (.int .u64 x209000_4) := (blk_cell BK208.out 0).trans rfl; have hcz52_1 : w51.cell? ⟨gb208, 1, none⟩ = some (.int .u64 x209001_4) := (blk_cell BK208.out 1).trans rfl; have hcz52_2 : w51.cell? ⟨gb208, 2, none⟩ = some (.int .u64 x209002_4) := (blk_cell BK208.out 2).trans rfl; have hcz52_3 : w51.cell? ⟨gb208, 3, none⟩ = some (.int .u64 x209003_4) := (blk_cell BK208.out 3).trans rfl; have hfz52_0 := blk_frozen BK208.out 0; have hfz52_1 := blk_frozen BK208.out 1; have hfz52_2 := blk_frozen BK208.out 2; have hfz52_3 := blk_frozen BK208.out 3; have hcz53_0 : w51.cell? ⟨gb221, 0, none⟩ = some (.int .u64 t213) := (blk_cell BK221.out 0).trans rfl; have hcz53_1 : w51.cell? ⟨gb221, 1, none⟩ = some (.int .u64 t214) := (blk_cell BK221.out 1).trans rfl; have hcz53_2 : w51.cell? ⟨gb221, 2, none⟩ = some (.int .u64 t215) := (blk_cell BK221.out 2).trans rfl; have hcz53_3 : w51.cell? ⟨gb221, 3, none⟩ = some (.int .u64 t216) := (blk_cell BK221.out 3).trans rfl; have hcz53_4 : w51.cell? ⟨gb221, 4, none⟩ = some (.int .u8 t217) := (blk_cell BK221.out 4).trans rfl; have hcz53_5 : w51.cell? ⟨gb221, 5, none⟩ = some (.bool t218) := (blk_cell BK221.out 5).trans rfl; have hcz53_6 : w51.cell? ⟨gb221, 6, none⟩ = some (.int .i64 t219) := (blk_cell BK221.out 6).trans rfl; have hcz53_7 : w51.cell? ⟨gb221, 7, none⟩ = some (.int .i64 t220) := (blk_cell BK221.out 7).trans rfl; have hfz53_0 := blk_frozen BK221.out 0; have hfz53_1 := blk_frozen BK221.out 1; have hfz53_2 := blk_frozen BK221.out 2; have hfz53_3 := blk_frozen BK221.out 3; have hfz53_4 := blk_frozen BK221.out 4; have hfz53_5 := blk_frozen BK221.out 5; have hfz53_6 := blk_frozen BK221.out 6; have hfz53_7 := blk_frozen BK221.out 7))
                              go_roundg kj24
                              case measure => have := HJ2.out; have := HJ14.out; have := HJ19.out; have := HK4.out; have := HJ24.out; omega
                              case rel => exact ⟨(t219), (wrap64 (x9_4 + 1)), (x208000_4), (x208001_4), (x208002_4), (x208003_4), (t222), (t223), (t224), (t225), (by first | rfl | (simp; done) | (simp [*]; done) | (exfalso; simp only [decide_eq_true_eq] at *; omega)), (by first | rfl | (simp; done) | (simp [*]; done) | (exfalso; simp only [decide_eq_true_eq] at *; omega)), H', ⟨by have := HJ2.out; have := HJ14.out; have := HJ19.out; have := HK4.out; have := HJ24.out; omega⟩, ⟨by (with_reducible repeat (first | refine blk_drewN ?_ _ | refine blk_drew ?_ | refine blk_alloc ?_ _)); refine blk_far ?_ NB207_208.out _; (with_reducible repeat (first | refine blk_drewN ?_ _ | refine blk_drew ?_ | refine blk_alloc ?_ _)); refine blk_far ?_ NB207_208.out _; (with_reducible repeat (first | refine blk_drewN ?_ _ | refine blk_drew ?_ | refine blk_alloc ?_ _)); refine blk_far ?_ NB207_208.out _; (with_reducible repeat (first | refine blk_drewN ?_ _ | refine blk_drew ?_ | refine blk_alloc ?_ _)); refine blk_far ?_ NB207_208.out _; (with_reducible repeat (first | refine blk_drewN ?_ _ | refine blk_drew ?_ | refine blk_alloc ?_ _)); exact BK207.out⟩, ⟨by (with_reducible repeat (first | refine blk_drewN ?_ _ | refine blk_drew ?_ | refine blk_alloc ?_ _)); refine blk_put (cs := #[.int .u64 t222, .int .u64 t223, .int .u64 t224, .int .u64 x209003_4]) ?_ 3 _ rfl; (with_reducible repeat (first | refine blk_drewN ?_ _ | refine blk_drew ?_ | refine blk_alloc ?_ _)); refine blk_put (cs := #[.int .u64 t222, .int .u64 t223, .int .u64 x209002_4, .int .u64 x209003_4]) ?_ 2 _ rfl; (with_reducible repeat (first | refine blk_drewN ?_ _ | refine blk_drew ?_ | refine blk_alloc ?_ _)); refine blk_put (cs := #[.int .u64 t222, .int .u64 x209001_4, .int .u64 x209002_4, .int .u64 x209003_4]) ?_ 1 _ rfl; (with_reducible repeat (first | refine blk_drewN ?_ _ | refine blk_drew ?_ | refine blk_alloc ?_ _)); refine blk_put (cs := #[.int .u64 x209000_4, .int .u64 x209001_4, .int .u64 x209002_4, .int .u64 x209003_4]) ?_ 0 _ rfl; (with_reducible repeat (first | refine blk_drewN ?_ _ | refine blk_drew ?_ | refine blk_alloc ?_ _)); exact BK208.out⟩, ⟨by repeat (first | (with_reducible first | exact HB.out | apply below_alloc | apply pw_below_drewN | apply below_drew1 | refine below_set ?_ GE207.out | refine below_set ?_ GE208.out | refine below_set ?_ GE221.out) | exact HB.out)⟩⟩
                            · rw [if_neg c42] at H
                              have c42b0 : (t220 == 0) = false := beq_eq_false_iff_ne.mpr c42
                              have c42b1 : (t220 != 0) = true := bne_iff_ne.mpr c42
                              simp only [Option.some.injEq, Prod.mk.injEq] at H
                              obtain ⟨rfl, rfl, rfl, rfl, rfl, rfl⟩ := H
                              try go_wp2_with (first | ((with_reducible refine gate_callee (f := 25) rfl ?_); refine goesL_ (some 58) rfl rfl Tryd.func25 (by kernel_rfl) rfl #[.string a0, .int .i64 x1_4] rfl (by (try simp only [List.map_toArray, List.map_cons, List.map_nil]); first | done | rfl | (simp only [List.length_drop, List.length_take]; rfl)) ?_; (with_reducible refine (runnelref03_ranged.calls kj24 a0 x1_4 t213 t214 t215 t216 t217 t218 t219 t220 _ A41.out).mono ?_); rintro e w54 ⟨rfl, hb⟩; refine ⟨_, rfl, ?_⟩; have n0_ := Aside0.mk (blk_below (g := gb207) (o := .cells #[.int .u64 x208000_4, .int .u64 x208001_4, .int .u64 x208002_4, .int .u64 x208003_4] 24 (0, 0)) (by (with_reducible repeat (first | refine blk_drewN ?_ _ | refine blk_drew ?_ | refine blk_alloc ?_ _)); exact BK207.out) hb); have n1_ := Aside0.mk (blk_below (g := gb208) (o := .cells #[.int .u64 x209000_4, .int .u64 x209001_4, .int .u64 x209002_4, .int .u64 x209003_4] 24 (0, 0)) (by (with_reducible repeat (first | refine blk_drewN ?_ _ | refine blk_drew ?_ | refine blk_alloc ?_ _)); exact BK208.out) hb); have n2_ := Aside0.mk (below_step (by repeat (first | (with_reducible first | exact HB.out | apply below_alloc | apply pw_below_drewN | apply below_drew1 | refine below_set ?_ GE207.out | refine below_set ?_ GE208.out) | exact HB.out)) hb); clear BK207; clear BK208; clear HB; have BK207 := n0_; have BK208 := n1_; have HB := n2_; clear n0_ n1_ n2_; (try clear hb); (try clear hb2); (try clear hk); (try clear hi)) | ((with_reducible refine gate_dst (N := 10) rfl ?_); (try (refine gate_guard (by rfl) ?_; dsimp only)); refine box_event ?hg (N := 10) ?hd (cs := #[.int .u64 0, .int .u64 0, .int .u64 0, .int .u64 0, .int .u8 0, .bool false, .int .i64 0, .int .i64 0]) (t := 59) ?hr ?_; (case hd => rfl); (case hg => rfl); (case hr => first | (go_simp; done) | (go_simp; rfl)); intro gb221 hg w55 hbox hb; have n0_ := Aside0.mk (blk_below (g := gb207) (o := .cells #[.int .u64 x208000_4, .int .u64 x208001_4, .int .u64 x208002_4, .int .u64 x208003_4] 24 (0, 0)) (by (with_reducible repeat (first | refine blk_drewN ?_ _ | refine blk_drew ?_ | refine blk_alloc ?_ _)); exact BK207.out) hb); have n1_ := Aside0.mk (blk_below (g := gb208) (o := .cells #[.int .u64 x209000_4, .int .u64 x209001_4, .int .u64 x209002_4, .int .u64 x209003_4] 24 (0, 0)) (by (with_reducible repeat (first | refine blk_drewN ?_ _ | refine blk_drew ?_ | refine blk_alloc ?_ _)); exact BK208.out) hb); have n2_ := Aside0.mk (below_step (by repeat (first | (with_reducible first | exact HB.out | apply below_alloc | apply pw_below_drewN | apply below_drew1 | refine below_set ?_ GE207.out | refine below_set ?_ GE208.out) | exact HB.out)) hb); have n3_ := Aside0.mk (hbox); have n4_ := Aside0.mk ((by rw [hg]; exact (below_size (by repeat (first | (with_reducible first | exact HB.out | apply below_alloc | apply pw_below_drewN | apply below_drew1 | refine below_set ?_ GE207.out | refine below_set ?_ GE208.out) | exact HB.out))) : w.heap.size ≤ gb221)); have n5_ := Aside0.mk ((by rw [hg]; exact (below_size (by repeat (first | (with_reducible first | exact HB.out | apply below_alloc | apply pw_below_drewN | apply below_drew1 | refine below_set ?_ GE207.out | refine below_set ?_ GE208.out) | exact HB.out))) : w.heap.size ≤ gb221)); have n6_ := Aside0.mk ((by rw [hg]; exact Nat.ne_of_lt (blk_lt (g := gb207) (o := .cells #[.int .u64 x208000_4, .int .u64 x208001_4, .int .u64 x208002_4, .int .u64 x208003_4] 24 (0, 0)) (by (with_reducible repeat (first | refine blk_drewN ?_ _ | refine blk_drew ?_ | refine blk_alloc ?_ _)); exact BK207.out)) : gb207 ≠ gb221)); have n7_ := Aside0.mk ((by rw [hg]; exact Nat.ne_of_gt (blk_lt (g := gb207) (o := .cells #[.int .u64 x208000_4, .int .u64 x208001_4, .int .u64 x208002_4, .int .u64 x208003_4] 24 (0, 0)) (by (with_reducible repeat (first | refine blk_drewN ?_ _ | refine blk_drew ?_ | refine blk_alloc ?_ _)); exact BK207.out)) : gb221 ≠ gb207)); have n8_ := Aside0.mk ((by rw [hg]; exact Nat.ne_of_lt (blk_lt (g := gb208) (o := .cells #[.int .u64 x209000_4, .int .u64 x209001_4, .int .u64 x209002_4, .int .u64 x209003_4] 24 (0, 0)) (by (with_reducible repeat (first | refine blk_drewN ?_ _ | refine blk_drew ?_ | refine blk_alloc ?_ _)); exact BK208.out)) : gb208 ≠ gb221)); have n9_ := Aside0.mk ((by rw [hg]; exact Nat.ne_of_gt (blk_lt (g := gb208) (o := .cells #[.int .u64 x209000_4, .int .u64 x209001_4, .int .u64 x209002_4, .int .u64 x209003_4] 24 (0, 0)) (by (with_reducible repeat (first | refine blk_drewN ?_ _ | refine blk_drew ?_ | refine blk_alloc ?_ _)); exact BK208.out)) : gb221 ≠ gb208)); clear BK207; clear BK208; clear HB; have BK207 := n0_; have BK208 := n1_; have HB := n2_; have BK221 := n3_; have GW221 := n4_; have GE221 := n5_; have NB207_221 := n6_; have NB221_207 := n7_; have NB208_221 := n8_; have NB221_208 := n9_; clear n0_ n1_ n2_ n3_ n4_ n5_ n6_ n7_ n8_ n9_; clear hb hbox hg; have hnb56 := NB221_207.out; have hnc56 := NB207_221.out; have hnb57 := NB221_208.out; have hnc57 := NB208_221.out; have hcz58_0 : w55.cell? ⟨gb221, 0, none⟩ = some (.int .u64 0) := (blk_cell BK221.out 0).trans rfl; have hcz58_1 : w55.cell? ⟨gb221, 1, none⟩ = some (.int .u64 0) := (blk_cell BK221.out 1).trans rfl; have hcz58_2 : w55.cell? ⟨gb221, 2, none⟩ = some (.int .u64 0) := (blk_cell BK221.out 2).trans rfl; have hcz58_3 : w55.cell? ⟨gb221, 3, none⟩ = some (.int .u64 0) := (blk_cell BK221.out 3).trans rfl; have hcz58_4 : w55.cell? ⟨gb221, 4, none⟩ = some (.int .u8 0) := (blk_cell BK221.out 4).trans rfl; have hcz58_5 : w55.cell? ⟨gb221, 5, none⟩ = some (.bool false) := (blk_cell BK221.out 5).trans rfl; have hcz58_6 : w55.cell? ⟨gb221, 6, none⟩ = some (.int .i64 0) := (blk_cell BK221.out 6).trans rfl; have hcz58_7 : w55.cell? ⟨gb221, 7, none⟩ = some (.int .i64 0) := (blk_cell BK221.out 7).trans rfl; have hfz58_0 := blk_frozen BK221.out 0; have hfz58_1 := blk_frozen BK221.out 1; have hfz58_2 := blk_frozen BK221.out 2; have hfz58_3 := blk_frozen BK221.out 3; have hfz58_4 := blk_frozen BK221.out 4; have hfz58_5 := blk_frozen BK221.out 5; have hfz58_6 := blk_frozen BK221.out 6; have hfz58_7 := blk_frozen BK221.out 7))
                              have n0_ : Aside0 (((((((((w55.setCell ⟨gb221, 0, none⟩ (.int .u64 t213)).setCell ⟨gb221, 1, none⟩ (.int .u64 t214)).setCell ⟨gb221, 2, none⟩ (.int .u64 t215)).setCell ⟨gb221, 3, none⟩ (.int .u64 t216)).setCell ⟨gb221, 4, none⟩ (.int .u8 t217)).setCell ⟨gb221, 5, none⟩ (.bool t218)).setCell ⟨gb221, 6, none⟩ (.int .i64 t219)).setCell ⟨gb221, 7, none⟩ (.int .i64 t220)).heap[gb207]? = some (.cells #[.int .u64 x208000_4, .int .u64 x208001_4, .int .u64 x208002_4, .int .u64 x208003_4] 24 (0, 0))) := ⟨by (with_reducible repeat (first | refine blk_drewN ?_ _ | refine blk_drew ?_ | refine blk_alloc ?_ _)); refine blk_far ?_ NB207_221.out _; (with_reducible repeat (first | refine blk_drewN ?_ _ | refine blk_drew ?_ | refine blk_alloc ?_ _)); refine blk_far ?_ NB207_221.out _; (with_reducible repeat (first | refine blk_drewN ?_ _ | refine blk_drew ?_ | refine blk_alloc ?_ _)); refine blk_far ?_ NB207_221.out _; (with_reducible repeat (first | refine blk_drewN ?_ _ | refine blk_drew ?_ | refine blk_alloc ?_ _)); refine blk_far ?_ NB207_221.out _; (with_reducible repeat (first | refine blk_drewN ?_ _ | refine blk_drew ?_ | refine blk_alloc ?_ _)); refine blk_far ?_ NB207_221.out _; (with_reducible repeat (first | refine blk_drewN ?_ _ | refine blk_drew ?_ | refine blk_alloc ?_ _)); refine blk_far ?_ NB207_221.out _; (with_reducible repeat (first | refine blk_drewN ?_ _ | refine blk_drew ?_ | refine blk_alloc ?_ _)); refine blk_far ?_ NB207_221.out _; (with_reducible repeat (first | refine blk_drewN ?_ _ | refine blk_drew ?_ | refine blk_alloc ?_ _)); refine blk_far ?_ NB207_221.out _; (with_reducible repeat (first | refine blk_drewN ?_ _ | refine blk_drew ?_ | refine blk_alloc ?_ _)); exact BK207.out⟩
                              have n1_ : Aside0 (((((((((w55.setCell ⟨gb221, 0, none⟩ (.int .u64 t213)).setCell ⟨gb221, 1, none⟩ (.int .u64 t214)).setCell ⟨gb221, 2, none⟩ (.int .u64 t215)).setCell ⟨gb221, 3, none⟩ (.int .u64 t216)).setCell ⟨gb221, 4, none⟩ (.int .u8 t217)).setCell ⟨gb221, 5, none⟩ (.bool t218)).setCell ⟨gb221, 6, none⟩ (.int .i64 t219)).setCell ⟨gb221, 7, none⟩ (.int .i64 t220)).heap[gb208]? = some (.cells #[.int .u64 x209000_4, .int .u64 x209001_4, .int .u64 x209002_4, .int .u64 x209003_4] 24 (0, 0))) := ⟨by (with_reducible repeat (first | refine blk_drewN ?_ _ | refine blk_drew ?_ | refine blk_alloc ?_ _)); refine blk_far ?_ NB208_221.out _; (with_reducible repeat (first | refine blk_drewN ?_ _ | refine blk_drew ?_ | refine blk_alloc ?_ _)); refine blk_far ?_ NB208_221.out _; (with_reducible repeat (first | refine blk_drewN ?_ _ | refine blk_drew ?_ | refine blk_alloc ?_ _)); refine blk_far ?_ NB208_221.out _; (with_reducible repeat (first | refine blk_drewN ?_ _ | refine blk_drew ?_ | refine blk_alloc ?_ _)); refine blk_far ?_ NB208_221.out _; (with_reducible repeat (first | refine blk_drewN ?_ _ | refine blk_drew ?_ | refine blk_alloc ?_ _)); refine blk_far ?_ NB208_221.out _; (with_reducible repeat (first | refine blk_drewN ?_ _ | refine blk_drew ?_ | refine blk_alloc ?_ _)); refine blk_far ?_ NB208_221.out _; (with_reducible repeat (first | refine blk_drewN ?_ _ | refine blk_drew ?_ | refine blk_alloc ?_ _)); refine blk_far ?_ NB208_221.out _; (with_reducible repeat (first | refine blk_drewN ?_ _ | refine blk_drew ?_ | refine blk_alloc ?_ _)); refine blk_far ?_ NB208_221.out _; (with_reducible repeat (first | refine blk_drewN ?_ _ | refine blk_drew ?_ | refine blk_alloc ?_ _)); exact BK208.out⟩
                              have n2_ : Aside0 (((((((((w55.setCell ⟨gb221, 0, none⟩ (.int .u64 t213)).setCell ⟨gb221, 1, none⟩ (.int .u64 t214)).setCell ⟨gb221, 2, none⟩ (.int .u64 t215)).setCell ⟨gb221, 3, none⟩ (.int .u64 t216)).setCell ⟨gb221, 4, none⟩ (.int .u8 t217)).setCell ⟨gb221, 5, none⟩ (.bool t218)).setCell ⟨gb221, 6, none⟩ (.int .i64 t219)).setCell ⟨gb221, 7, none⟩ (.int .i64 t220)).heap[gb221]? = some (.cells #[.int .u64 t213, .int .u64 t214, .int .u64 t215, .int .u64 t216, .int .u8 t217, .bool t218, .int .i64 t219, .int .i64 t220] 59 (0, 0))) := ⟨by (with_reducible repeat (first | refine blk_drewN ?_ _ | refine blk_drew ?_ | refine blk_alloc ?_ _)); refine blk_put (cs := #[.int .u64 t213, .int .u64 t214, .int .u64 t215, .int .u64 t216, .int .u8 t217, .bool t218, .int .i64 t219, .int .i64 0]) ?_ 7 _ rfl; (with_reducible repeat (first | refine blk_drewN ?_ _ | refine blk_drew ?_ | refine blk_alloc ?_ _)); refine blk_put (cs := #[.int .u64 t213, .int .u64 t214, .int .u64 t215, .int .u64 t216, .int .u8 t217, .bool t218, .int .i64 0, .int .i64 0]) ?_ 6 _ rfl; (with_reducible repeat (first | refine blk_drewN ?_ _ | refine blk_drew ?_ | refine blk_alloc ?_ _)); refine blk_put (cs := #[.int .u64 t213, .int .u64 t214, .int .u64 t215, .int .u64 t216, .int .u8 t217, .bool false, .int .i64 0, .int .i64 0]) ?_ 5 _ rfl; (with_reducible repeat (first | refine blk_drewN ?_ _ | refine blk_drew ?_ | refine blk_alloc ?_ _)); refine blk_put (cs := #[.int .u64 t213, .int .u64 t214, .int .u64 t215, .int .u64 t216, .int .u8 0, .bool false, .int .i64 0, .int .i64 0]) ?_ 4 _ rfl; (with_reducible repeat (first | refine blk_drewN ?_ _ | refine blk_drew ?_ | refine blk_alloc ?_ _)); refine blk_put (cs := #[.int .u64 t213, .int .u64 t214, .int .u64 t215, .int .u64 0, .int .u8 0, .bool false, .int .i64 0, .int .i64 0]) ?_ 3 _ rfl; (with_reducible repeat (first | refine blk_drewN ?_ _ | refine blk_drew ?_ | refine blk_alloc ?_ _)); refine blk_put (cs := #[.int .u64 t213, .int .u64 t214, .int .u64 0, .int .u64 0, .int .u8 0, .bool false, .int .i64 0, .int .i64 0]) ?_ 2 _ rfl; (with_reducible repeat (first | refine blk_drewN ?_ _ | refine blk_drew ?_ | refine blk_alloc ?_ _)); refine blk_put (cs := #[.int .u64 t213, .int .u64 0, .int .u64 0, .int .u64 0, .int .u8 0, .bool false, .int .i64 0, .int .i64 0]) ?_ 1 _ rfl; (with_reducible repeat (first | refine blk_drewN ?_ _ | refine blk_drew ?_ | refine blk_alloc ?_ _)); refine blk_put (cs := #[.int .u64 0, .int .u64 0, .int .u64 0, .int .u64 0, .int .u8 0, .bool false, .int .i64 0, .int .i64 0]) ?_ 0 _ rfl; (with_reducible repeat (first | refine blk_drewN ?_ _ | refine blk_drew ?_ | refine blk_alloc ?_ _)); exact BK221.out⟩
                              have n3_ : Aside0 (Below w.heap.size w ((((((((w55.setCell ⟨gb221, 0, none⟩ (.int .u64 t213)).setCell ⟨gb221, 1, none⟩ (.int .u64 t214)).setCell ⟨gb221, 2, none⟩ (.int .u64 t215)).setCell ⟨gb221, 3, none⟩ (.int .u64 t216)).setCell ⟨gb221, 4, none⟩ (.int .u8 t217)).setCell ⟨gb221, 5, none⟩ (.bool t218)).setCell ⟨gb221, 6, none⟩ (.int .i64 t219)).setCell ⟨gb221, 7, none⟩ (.int .i64 t220))) := ⟨by repeat (first | (with_reducible first | exact HB.out | apply below_alloc | apply pw_below_drewN | apply below_drew1 | refine below_set ?_ GE207.out | refine below_set ?_ GE208.out | refine below_set ?_ GE221.out) | exact HB.out)⟩
                              (try clear BK207)
                              (try clear BK208)
                              (try clear BK221)
                              (try clear HB)
                              generalize ((((((((w55.setCell ⟨gb221, 0, none⟩ (.int .u64 t213)).setCell ⟨gb221, 1, none⟩ (.int .u64 t214)).setCell ⟨gb221, 2, none⟩ (.int .u64 t215)).setCell ⟨gb221, 3, none⟩ (.int .u64 t216)).setCell ⟨gb221, 4, none⟩ (.int .u8 t217)).setCell ⟨gb221, 5, none⟩ (.bool t218)).setCell ⟨gb221, 6, none⟩ (.int .i64 t219)).setCell ⟨gb221, 7, none⟩ (.int .i64 t220)) = w59 at n0_ n1_ n2_ n3_ ⊢
                              have BK207 := n0_
                              have BK208 := n1_
                              have BK221 := n2_
                              have HB := n3_
                              clear n0_ n1_ n2_ n3_
                              have n0_ := Aside0.mk (blk_drew BK207.out)
                              have n1_ := Aside0.mk (blk_drew BK208.out)
                              have n2_ := Aside0.mk (blk_drew BK221.out)
                              have n3_ := Aside0.mk (below_drew1 HB.out)
                              clear BK207
                              clear BK208
                              clear BK221
                              clear HB
                              have BK207 := n0_
                              have BK208 := n1_
                              have BK221 := n2_
                              have HB := n3_
                              clear n0_ n1_ n2_ n3_
                              refine start_ (n := 6) (S := fun w' => w'.cell? ⟨gb221, 0, none⟩ = some (.int .u64 t213) ∧ w'.cell? ⟨gb221, 1, none⟩ = some (.int .u64 t214) ∧ w'.cell? ⟨gb221, 2, none⟩ = some (.int .u64 t215) ∧ w'.cell? ⟨gb221, 3, none⟩ = some (.int .u64 t216) ∧ w'.cell? ⟨gb221, 4, none⟩ = some (.int .u8 t217) ∧ w'.cell? ⟨gb221, 5, none⟩ = some (.bool t218) ∧ w'.cell? ⟨gb221, 6, none⟩ = some (.int .i64 t219) ∧ w'.cell? ⟨gb221, 7, none⟩ = some (.int .i64 t220)) (ds := []) #[false, false, false, false, false, false] (by kernel_rfl) rfl rfl ⟨(blk_cell BK221.out 0).trans rfl, (blk_cell BK221.out 1).trans rfl, (blk_cell BK221.out 2).trans rfl, (blk_cell BK221.out 3).trans rfl, (blk_cell BK221.out 4).trans rfl, (blk_cell BK221.out 5).trans rfl, (blk_cell BK221.out 6).trans rfl, (blk_cell BK221.out 7).trans rfl⟩ (fun hHeld => ?_)
                              generalize w59.drew = w60 at BK207 BK208 BK221 HB hHeld ⊢
                              refine pure_ (i := 0) (N := some 62) (v := ?_) (a' := ?_) #[true, false, false, false, false, false] rfl rfl (by kernel_rfl) (fun _ _ _ h => h) (Or.inl ⟨by rfl, ?_⟩) ?_ ?_
                              rotate_left
                              · intro w'
                                go_simp
                                with_reducible rfl
                              rotate_left
                              · simp only [Act.put, List.setIfInBounds_toArray, List.set_cons_zero, List.set_cons_succ, i64_w, i32_w]
                                rfl
                              refine pure_ (i := 1) (N := some 63) (v := ?_) (a' := ?_) #[true, true, false, false, false, false] rfl rfl (by kernel_rfl) (fun _ _ _ h => h) (Or.inl ⟨by rfl, ?_⟩) ?_ ?_
                              rotate_left
                              · intro w'
                                go_simp
                                with_reducible rfl
                              rotate_left
                              · simp only [Act.put, List.setIfInBounds_toArray, List.set_cons_zero, List.set_cons_succ, i64_w, i32_w]
                                rfl
                              refine take_ (i := 2) (N := some 64) (v := ?_) (a' := ?_) #[true, true, true, false, false, false] rfl rfl (by kernel_rfl) (fun _ _ _ h => h) (Or.inl ⟨by rfl, ?_⟩) hHeld ?_ ?_
                              rotate_left
                              · rintro w' ⟨s0, s1, s2, s3, s4, s5, s6, s7⟩
                                go_simp
                                with_reducible rfl
                              rotate_left
                              · simp only [Act.put, List.setIfInBounds_toArray, List.set_cons_zero, List.set_cons_succ, i64_w, i32_w]
                                rfl
                              refine one_ (i := 3) (N := none) #[true, true, true, true, false, false] rfl rfl (by kernel_rfl) (by decide) (fun K hK => ?_)
                              have hs61 : w60.cell? ⟨gb207, 0, none⟩ = some (.int .u64 x208000_4) := (blk_cell BK207.out 0).trans rfl
                              have hfs61 := blk_frozen BK207.out 0
                              have hns61_1 := NB208_207.out
                              have hns61_2 := NB221_207.out
                              have hms61_1 := NB207_208.out
                              have hms61_2 := NB207_221.out
                              have hs62 : w60.cell? ⟨gb207, 1, none⟩ = some (.int .u64 x208001_4) := (blk_cell BK207.out 1).trans rfl
                              have hfs62 := blk_frozen BK207.out 1
                              have hns62_1 := NB208_207.out
                              have hns62_2 := NB221_207.out
                              have hms62_1 := NB207_208.out
                              have hms62_2 := NB207_221.out
                              have hs63 : w60.cell? ⟨gb207, 2, none⟩ = some (.int .u64 x208002_4) := (blk_cell BK207.out 2).trans rfl
                              have hfs63 := blk_frozen BK207.out 2
                              have hns63_1 := NB208_207.out
                              have hns63_2 := NB221_207.out
                              have hms63_1 := NB207_208.out
                              have hms63_2 := NB207_221.out
                              have hs64 : w60.cell? ⟨gb207, 3, none⟩ = some (.int .u64 x208003_4) := (blk_cell BK207.out 3).trans rfl
                              have hfs64 := blk_frozen BK207.out 3
                              have hns64_1 := NB208_207.out
                              have hns64_2 := NB221_207.out
                              have hms64_1 := NB207_208.out
                              have hms64_2 := NB207_221.out
                              refine skip_ (w1 := ?_) (by rfl) rfl ?_ ?_
                              rotate_left
                              · go_simp
                                rfl
                              refine hK.out _ _ ⟨((cell_far (p := ⟨gb207, _, none⟩) NB221_207.out _).trans (((cell_far (p := ⟨gb207, _, none⟩) NB221_207.out _).trans (((cell_far (p := ⟨gb207, _, none⟩) NB221_207.out _).trans (((cell_far (p := ⟨gb207, _, none⟩) NB221_207.out _).trans (hHeld.1)))))))), ((cell_far (p := ⟨gb207, _, none⟩) NB221_207.out _).trans (((cell_far (p := ⟨gb207, _, none⟩) NB221_207.out _).trans (((cell_far (p := ⟨gb207, _, none⟩) NB221_207.out _).trans (((cell_far (p := ⟨gb207, _, none⟩) NB221_207.out _).trans (hHeld.2.1)))))))), ((cell_far (p := ⟨gb207, _, none⟩) NB221_207.out _).trans (((cell_far (p := ⟨gb207, _, none⟩) NB221_207.out _).trans (((cell_far (p := ⟨gb207, _, none⟩) NB221_207.out _).trans (((cell_far (p := ⟨gb207, _, none⟩) NB221_207.out _).trans (hHeld.2.2.1)))))))), ((cell_far (p := ⟨gb207, _, none⟩) NB221_207.out _).trans (((cell_far (p := ⟨gb207, _, none⟩) NB221_207.out _).trans (((cell_far (p := ⟨gb207, _, none⟩) NB221_207.out _).trans (((cell_far (p := ⟨gb207, _, none⟩) NB221_207.out _).trans (hHeld.2.2.2.1)))))))), ((cell_far (p := ⟨gb207, _, none⟩) NB221_207.out _).trans (((cell_far (p := ⟨gb207, _, none⟩) NB221_207.out _).trans (((cell_far (p := ⟨gb207, _, none⟩) NB221_207.out _).trans (((cell_far (p := ⟨gb207, _, none⟩) NB221_207.out _).trans (hHeld.2.2.2.2.1)))))))), ((cell_far (p := ⟨gb207, _, none⟩) NB221_207.out _).trans (((cell_far (p := ⟨gb207, _, none⟩) NB221_207.out _).trans (((cell_far (p := ⟨gb207, _, none⟩) NB221_207.out _).trans (((cell_far (p := ⟨gb207, _, none⟩) NB221_207.out _).trans (hHeld.2.2.2.2.2.1)))))))), ((cell_far (p := ⟨gb207, _, none⟩) NB221_207.out _).trans (((cell_far (p := ⟨gb207, _, none⟩) NB221_207.out _).trans (((cell_far (p := ⟨gb207, _, none⟩) NB221_207.out _).trans (((cell_far (p := ⟨gb207, _, none⟩) NB221_207.out _).trans (hHeld.2.2.2.2.2.2.1)))))))), ((cell_far (p := ⟨gb207, _, none⟩) NB221_207.out _).trans (((cell_far (p := ⟨gb207, _, none⟩) NB221_207.out _).trans (((cell_far (p := ⟨gb207, _, none⟩) NB221_207.out _).trans (((cell_far (p := ⟨gb207, _, none⟩) NB221_207.out _).trans (hHeld.2.2.2.2.2.2.2))))))))⟩ (fun hHeld => ?_)
                              clear hK K
                              refine pure_ (i := 4) (N := some 5) (v := ?_) (a' := ?_) #[true, true, true, true, true, false] rfl rfl (by kernel_rfl) (fun _ _ _ h => h) (Or.inl ⟨by rfl, ?_⟩) ?_ ?_
                              rotate_left
                              · intro w'
                                go_simp
                                with_reducible rfl
                              rotate_left
                              · simp only [Act.put, List.setIfInBounds_toArray, List.set_cons_zero, List.set_cons_succ, i64_w, i32_w]
                                rfl
                              refine pure_ (i := 5) (N := some 6) (v := ?_) (a' := ?_) #[true, true, true, true, true, true] rfl rfl (by kernel_rfl) (fun _ _ _ h => h) (Or.inl ⟨by rfl, ?_⟩) ?_ ?_
                              rotate_left
                              · intro w'
                                go_simp
                                with_reducible rfl
                              rotate_left
                              · simp only [Act.put, List.setIfInBounds_toArray, List.set_cons_zero, List.set_cons_succ, i64_w, i32_w]
                                rfl
                              refine done_ (by kernel_rfl) ?_
                              try go_wp2
                              refine bodyPost_ret (results_ctt rfl _ _ gb207 24 #[.int .u64 0, .int .u64 0, .int .u64 0, .int .u64 0] (0, 0) _ rfl (by (with_reducible repeat (first | refine blk_drewN ?_ _ | refine blk_drew ?_ | refine blk_alloc ?_ _)); refine blk_put (cs := #[.int .u64 0, .int .u64 0, .int .u64 0, .int .u64 x208003_4]) ?_ 3 _ rfl; (with_reducible repeat (first | refine blk_drewN ?_ _ | refine blk_drew ?_ | refine blk_alloc ?_ _)); refine blk_put (cs := #[.int .u64 0, .int .u64 0, .int .u64 x208002_4, .int .u64 x208003_4]) ?_ 2 _ rfl; (with_reducible repeat (first | refine blk_drewN ?_ _ | refine blk_drew ?_ | refine blk_alloc ?_ _)); refine blk_put (cs := #[.int .u64 0, .int .u64 x208001_4, .int .u64 x208002_4, .int .u64 x208003_4]) ?_ 1 _ rfl; (with_reducible repeat (first | refine blk_drewN ?_ _ | refine blk_drew ?_ | refine blk_alloc ?_ _)); refine blk_put (cs := #[.int .u64 x208000_4, .int .u64 x208001_4, .int .u64 x208002_4, .int .u64 x208003_4]) ?_ 0 _ rfl; (with_reducible repeat (first | refine blk_drewN ?_ _ | refine blk_drew ?_ | refine blk_alloc ?_ _)); exact BK207.out) Tryd.underlying24 rfl (by kernel_rfl)) rfl ?_
                              exact ⟨by first | rfl | (simp only [wrap_wrap]; done) | (simp only [wrap_wrap]; rfl) | (simp [errW_none, errW_some] <;> rfl) | (simp [*, errW_none, errW_some] <;> rfl), by repeat (first | (with_reducible first | exact HB.out | apply below_alloc | apply pw_below_drewN | apply below_drew1 | refine below_set ?_ GE207.out | refine below_set ?_ GE208.out | refine below_set ?_ GE221.out) | exact HB.out)⟩
end Go.Proofs.YtcmipoicnonaeaaDoor.F
end
