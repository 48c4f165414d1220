/- Texts of this claim, 13 of 14: PureSets, F15, F16, F46, PureSets2, PureText1, PureText2, PureBracketTexts. -/
import Derived.Laws.BitsAllLaws
import Derived.Lib.Zigzag
import Derived.KernelRfl
import Derived.Test.YtcmipoicnonaeaaDoorKT12
section
namespace Go.Proofs.YtcmipoicnonaeaaDoor.F
open Go.RowKit Go.Proofs.YtcmipoicnonaeaaDoorW.PrintWords
set_option linter.unusedVariables false
set_option linter.unusedSimpArgs false
def w64 (x : Int) : Prop := 0 ≤ x ∧ x < 18446744073709551616
abbrev S4 := Int × Int × Int × Int
def okS (s : S4) : Prop := w64 s.1 ∧ w64 s.2.1 ∧ w64 s.2.2.1 ∧ w64 s.2.2.2
def wrd (s : S4) (k : Nat) : Nat := if k = 0 then s.1.toNat else if k = 1 then s.2.1.toNat else if k = 2 then s.2.2.1.toNat else s.2.2.2.toNat
def has (s : S4) (b : Nat) : Bool := (wrd s (b / 64)).testBit (b % 64)
theorem wrd_lt {s : S4} (h : okS s) (k : Nat) : wrd s k < 2 ^ 64 := by
  obtain ⟨h0, h1, h2, h3⟩ := h
  unfold w64 at *
  unfold wrd
  split
  · omega
  · split
    · omega
    · split <;> omega
theorem int_pow (m : Nat) : (2 : Int) ^ m = ((2 ^ m : Nat) : Int) := by simp
theorem hasBit_eq {s : S4} (h : okS s) {b : Nat} (hb : b < 256) : hasBit s.1 s.2.1 s.2.2.1 s.2.2.2 (b : Int) = has s b := by
  have hw : wordOf s.1 s.2.1 s.2.2.1 s.2.2.2 (b : Int) = (wrd s (b / 64) : Int) := by
    obtain ⟨h0, h1, h2, h3⟩ := h
    unfold w64 at *
    unfold wordOf wrd
    rcases (by omega : b / 64 = 0 ∨ b / 64 = 1 ∨ b / 64 = 2 ∨ b / 64 = 3) with e | e | e | e
    all_goals
      have e' : (b : Int) / 64 = ((b / 64 : Nat) : Int) := by omega
      rw [e', e]
      simp
      omega
  have hlt := wrd_lt h (b / 64)
  unfold hasBit
  rw [hw, show ((b : Int) % 64).toNat = b % 64 by omega, int_pow]
  rw [show ((wrd s (b / 64) : Int) / ((2 ^ (b % 64) : Nat) : Int)) = ((wrd s (b / 64) / 2 ^ (b % 64) : Nat) : Int) by simp]
  have hq : wrd s (b / 64) / 2 ^ (b % 64) < 18446744073709551616 := Nat.lt_of_le_of_lt (Nat.div_le_self _ _) (by simpa using hlt)
  unfold has
  rw [Nat.testBit_eq_decide_div_mod_eq]
  obtain ⟨q, hqq⟩ : ∃ q, wrd s (b / 64) / 2 ^ (b % 64) = q := ⟨_, rfl⟩
  rw [hqq] at hq ⊢
  rw [Go.Lib.u64_and1 _ (by omega) (by omega)]
  by_cases hx : q % 2 = 1
  · rw [decide_eq_true hx, show ((q : Int) % 2) = 1 by omega]; rfl
  · rw [decide_eq_false hx, show ((q : Int) % 2) = 0 by omega]; rfl
theorem ext4 {s t : S4} (hs : okS s) (ht : okS t) (h : ∀ b, b < 256 → has s b = has t b) : s = t := by
  have hk : ∀ k, k < 4 → wrd s k = wrd t k := by
    intro k hk
    apply Nat.eq_of_testBit_eq
    intro i
    by_cases hi : i < 64
    · have := h (k * 64 + i) (by omega)
      unfold has at this
      rw [show (k * 64 + i) / 64 = k by omega, show (k * 64 + i) % 64 = i by omega] at this
      exact this
    · rw [Nat.testBit_lt_two_pow (Nat.lt_of_lt_of_le (wrd_lt hs k) (Nat.pow_le_pow_right (by decide) (by omega))), Nat.testBit_lt_two_pow (Nat.lt_of_lt_of_le (wrd_lt ht k) (Nat.pow_le_pow_right (by decide) (by omega)))]
  have e0 := hk 0 (by decide)
  have e1 := hk 1 (by decide)
  have e2 := hk 2 (by decide)
  have e3 := hk 3 (by decide)
  simp only [wrd] at e0 e1 e2 e3
  obtain ⟨s0, s1, s2, s3⟩ := s
  obtain ⟨t0, t1, t2, t3⟩ := t
  simp only [okS, w64] at hs ht
  simp at e0 e1 e2 e3
  simp only [Prod.mk.injEq]
  omega
def zeroS : S4 := (0, 0, 0, 0)
theorem zeroS_ok : okS zeroS := by simp [okS, zeroS, w64]
theorem has_zero (b : Nat) : has zeroS b = false := by
  unfold has wrd zeroS
  split
  · simp
  · split
    · simp
    · split <;> simp
end Go.Proofs.YtcmipoicnonaeaaDoor.F
end
section
namespace Go.Proofs.YtcmipoicnonaeaaDoor.F
open Go.RowKit Go.Proofs.YtcmipoicnonaeaaDoorW.PrintWords Go.Proofs.YtcmipoicnonaeaaDoorW.PrintLast Go.Proofs.YtcmipoicnonaeaaDoorW.PrintMore
attribute [local go_sem] max2_int min2_int max_two min_two max_three min_three max_four min_four
set_option linter.unusedVariables false
set_option linter.unusedSimpArgs false
def runnelref02_Not.l0 : Nat → Int → Int → Int → Int → Int → Int → Int → Int → Int → Option (Int × Int × Int × Int)
  | 0, _, _, _, _, _, _, _, _, _ => none
  | k + 1, x4, x104000, x104001, x104002, x104003, x106000, x106001, x106002, x106003 => if x4 < 256 then ((runnelref02_Has.f x104000 x104001 x104002 x104003 x4).bind fun t106 => (if t106 = true then (runnelref02_Not.l0 k (wrap64 (x4 + 1)) x104000 x104001 x104002 x104003 x106000 x106001 x106002 x106003) else ((runnelref02_With.f x106000 x106001 x106002 x106003 x4).bind fun bt107 => (runnelref02_Not.l0 k (wrap64 (x4 + 1)) x104000 x104001 x104002 x104003 bt107.1 bt107.2.1 bt107.2.2.1 bt107.2.2.2)))) else (some (x106000, x106001, x106002, x106003))
def runnelref02_Not.f (k : Nat) (a0_0 : Int) (a0_1 : Int) (a0_2 : Int) (a0_3 : Int) : Option (Int × Int × Int × Int) := runnelref02_Not.l0 k 0 a0_0 a0_1 a0_2 a0_3 0 0 0 0
theorem runnelref02_Not.mono_l : ∀ k, (∀ y0 y1 y2 y3 y4 y5 y6 y7 y8, LeO (runnelref02_Not.l0 k y0 y1 y2 y3 y4 y5 y6 y7 y8) (runnelref02_Not.l0 (k + 1) y0 y1 y2 y3 y4 y5 y6 y7 y8))
  | 0 => fun _ _ _ _ _ _ _ _ _ r h => by simp [runnelref02_Not.l0] at h
  | k + 1 => by
    have ih0 := runnelref02_Not.mono_l k
    · intro y0 y1 y2 y3 y4 y5 y6 y7 y8
      unfold runnelref02_Not.l0
      repeat' first
      | (with_reducible exact ih0 _ _ _ _ _ _ _ _ _)
      | (with_reducible exact LeO.refl _)
      | (with_reducible exact LeO.none _)
      | (with_reducible refine LeO.ite ?_ ?_)
      | (with_reducible refine LeO.bind ?_ (fun _ => ?_))
      | exact ih0 _ _ _ _ _ _ _ _ _
      | exact LeO.none _
      | refine LeO.ite ?_ ?_
      | refine LeO.bind ?_ (fun _ => ?_)
theorem runnelref02_Not.mono : ∀ a0 a1 a2 a3 k, LeO (runnelref02_Not.f k a0 a1 a2 a3) (runnelref02_Not.f (k + 1) a0 a1 a2 a3) := by
  intro a0 a1 a2 a3 k
  have ih0 := runnelref02_Not.mono_l k
  unfold runnelref02_Not.f
  repeat' first
      | (with_reducible exact ih0 _ _ _ _ _ _ _ _ _)
      | (with_reducible exact LeO.refl _)
      | (with_reducible exact LeO.none _)
      | (with_reducible refine LeO.ite ?_ ?_)
      | (with_reducible refine LeO.bind ?_ (fun _ => ?_))
      | exact ih0 _ _ _ _ _ _ _ _ _
      | exact LeO.none _
      | refine LeO.ite ?_ ?_
      | refine LeO.bind ?_ (fun _ => ?_)
set_option maxHeartbeats 8000000 in
set_option maxRecDepth 100000 in
theorem runnelref02_Not.calls (k : Nat) (a0_0 : Int) (a0_1 : Int) (a0_2 : Int) (a0_3 : Int) (r1 : Int) (r2 : Int) (r3 : Int) (r4 : Int) (w : World) (h : runnelref02_Not.f k a0_0 a0_1 a0_2 a0_3 = some (r1, r2, r3, r4)) :
    Calls Tryd.prog 15 #[.agg #[.int .u64 a0_0, .int .u64 a0_1, .int .u64 a0_2, .int .u64 a0_3]] w fun e w' => e = .returned (.agg #[.int .u64 r1, .int .u64 r2, .int .u64 r3, .int .u64 r4]) ∧ Below w.heap.size w w' := by
  have hu24 := Tryd.underlying24
  have HB := Aside0.mk (Below.refl w.heap.size w)
  have H : (runnelref02_Not.l0 k 0 a0_0 a0_1 a0_2 a0_3 0 0 0 0) = some (r1, r2, r3, r4) := h
  clear h
  have H' := Aside0.mk H
  clear H
  go_enter Tryd.func15, Tryd.ntmps15
  go_wp2_with (first | ((with_reducible refine gate_dst (N := 1) rfl ?_); refine box_event ?hg (N := 1) ?hd (cs := #[.int .u64 a0_0, .int .u64 a0_1, .int .u64 a0_2, .int .u64 a0_3]) (t := 24) ?hr ?_; (case hd => rfl); (case hg => rfl); (case hr => first | (go_simp; done) | (go_simp; rfl)); intro gb103 hg w2 hbox hb; have n0_ := Aside0.mk (below_step (by repeat (first | (with_reducible first | exact HB.out | apply below_alloc | apply pw_below_drewN | apply below_drew1) | exact HB.out)) hb); have n1_ := Aside0.mk (hbox); have n2_ := Aside0.mk ((by rw [hg]; exact (below_size (by repeat (first | (with_reducible first | exact HB.out | apply below_alloc | apply pw_below_drewN | apply below_drew1) | exact HB.out))) : w.heap.size ≤ gb103)); have n3_ := Aside0.mk ((by rw [hg]; exact (below_size (by repeat (first | (with_reducible first | exact HB.out | apply below_alloc | apply pw_below_drewN | apply below_drew1) | exact HB.out))) : w.heap.size ≤ gb103)); clear HB; have HB := n0_; have BK103 := n1_; have GW103 := n2_; have GE103 := n3_; clear n0_ n1_ n2_ n3_; clear hb hbox hg) | ((with_reducible refine gate_dst (N := 2) rfl ?_); refine box_event ?hg (N := 2) ?hd (cs := #[.int .u64 0, .int .u64 0, .int .u64 0, .int .u64 0]) (t := 24) ?hr ?_; (case hd => rfl); (case hg => rfl); (case hr => first | (go_simp; done) | (go_simp; rfl)); intro gb104 hg w3 hbox hb; have n0_ := Aside0.mk (blk_below (g := gb103) (o := .cells #[.int .u64 a0_0, .int .u64 a0_1, .int .u64 a0_2, .int .u64 a0_3] 24 (0, 0)) (by (with_reducible repeat (first | refine blk_drewN ?_ _ | refine blk_drew ?_ | refine blk_alloc ?_ _)); exact BK103.out) hb); have n1_ := Aside0.mk (below_step (by repeat (first | (with_reducible first | exact HB.out | apply below_alloc | apply pw_below_drewN | apply below_drew1 | refine below_set ?_ GE103.out) | exact HB.out)) hb); have n2_ := Aside0.mk (hbox); have n3_ := Aside0.mk ((by rw [hg]; exact (below_size (by repeat (first | (with_reducible first | exact HB.out | apply below_alloc | apply pw_below_drewN | apply below_drew1 | refine below_set ?_ GE103.out) | exact HB.out))) : w.heap.size ≤ gb104)); have n4_ := Aside0.mk ((by rw [hg]; exact (below_size (by repeat (first | (with_reducible first | exact HB.out | apply below_alloc | apply pw_below_drewN | apply below_drew1 | refine below_set ?_ GE103.out) | exact HB.out))) : w.heap.size ≤ gb104)); have n5_ := Aside0.mk ((by rw [hg]; exact Nat.ne_of_lt (blk_lt (g := gb103) (o := .cells #[.int .u64 a0_0, .int .u64 a0_1, .int .u64 a0_2, .int .u64 a0_3] 24 (0, 0)) (by (with_reducible repeat (first | refine blk_drewN ?_ _ | refine blk_drew ?_ | refine blk_alloc ?_ _)); exact BK103.out)) : gb103 ≠ gb104)); have n6_ := Aside0.mk ((by rw [hg]; exact Nat.ne_of_gt (blk_lt (g := gb103) (o := .cells #[.int .u64 a0_0, .int .u64 a0_1, .int .u64 a0_2, .int .u64 a0_3] 24 (0, 0)) (by (with_reducible repeat (first | refine blk_drewN ?_ _ | refine blk_drew ?_ | refine blk_alloc ?_ _)); exact BK103.out)) : gb104 ≠ gb103)); clear BK103; clear HB; have BK103 := n0_; have HB := n1_; have BK104 := n2_; have GW104 := n3_; have GE104 := n4_; have NB103_104 := n5_; have NB104_103 := n6_; clear n0_ n1_ n2_ n3_ n4_ n5_ n6_; clear hb hbox hg) | ((with_reducible refine gate_dst (N := 3) rfl ?_); refine box_event ?hg (N := 3) ?hd (cs := #[.int .u64 0, .int .u64 0, .int .u64 0, .int .u64 0]) (t := 24) ?hr ?_; (case hd => rfl); (case hg => rfl); (case hr => first | (go_simp; done) | (go_simp; rfl)); intro gb105 hg w4 hbox hb; have n0_ := Aside0.mk (blk_below (g := gb103) (o := .cells #[.int .u64 a0_0, .int .u64 a0_1, .int .u64 a0_2, .int .u64 a0_3] 24 (0, 0)) (by (with_reducible repeat (first | refine blk_drewN ?_ _ | refine blk_drew ?_ | refine blk_alloc ?_ _)); exact BK103.out) hb); have n1_ := Aside0.mk (blk_below (g := gb104) (o := .cells #[.int .u64 0, .int .u64 0, .int .u64 0, .int .u64 0] 24 (0, 0)) (by (with_reducible repeat (first | refine blk_drewN ?_ _ | refine blk_drew ?_ | refine blk_alloc ?_ _)); exact BK104.out) hb); have n2_ := Aside0.mk (below_step (by repeat (first | (with_reducible first | exact HB.out | apply below_alloc | apply pw_below_drewN | apply below_drew1 | refine below_set ?_ GE103.out | refine below_set ?_ GE104.out) | exact HB.out)) hb); have n3_ := Aside0.mk (hbox); have n4_ := Aside0.mk ((by rw [hg]; exact (below_size (by repeat (first | (with_reducible first | exact HB.out | apply below_alloc | apply pw_below_drewN | apply below_drew1 | refine below_set ?_ GE103.out | refine below_set ?_ GE104.out) | exact HB.out))) : w.heap.size ≤ gb105)); have n5_ := Aside0.mk ((by rw [hg]; exact (below_size (by repeat (first | (with_reducible first | exact HB.out | apply below_alloc | apply pw_below_drewN | apply below_drew1 | refine below_set ?_ GE103.out | refine below_set ?_ GE104.out) | exact HB.out))) : w.heap.size ≤ gb105)); have n6_ := Aside0.mk ((by rw [hg]; exact Nat.ne_of_lt (blk_lt (g := gb103) (o := .cells #[.int .u64 a0_0, .int .u64 a0_1, .int .u64 a0_2, .int .u64 a0_3] 24 (0, 0)) (by (with_reducible repeat (first | refine blk_drewN ?_ _ | refine blk_drew ?_ | refine blk_alloc ?_ _)); exact BK103.out)) : gb103 ≠ gb105)); have n7_ := Aside0.mk ((by rw [hg]; exact Nat.ne_of_gt (blk_lt (g := gb103) (o := .cells #[.int .u64 a0_0, .int .u64 a0_1, .int .u64 a0_2, .int .u64 a0_3] 24 (0, 0)) (by (with_reducible repeat (first | refine blk_drewN ?_ _ | refine blk_drew ?_ | refine blk_alloc ?_ _)); exact BK103.out)) : gb105 ≠ gb103)); have n8_ := Aside0.mk ((by rw [hg]; exact Nat.ne_of_lt (blk_lt (g := gb104) (o := .cells #[.int .u64 0, .int .u64 0, .int .u64 0, .int .u64 0] 24 (0, 0)) (by (with_reducible repeat (first | refine blk_drewN ?_ _ | refine blk_drew ?_ | refine blk_alloc ?_ _)); exact BK104.out)) : gb104 ≠ gb105)); have n9_ := Aside0.mk ((by rw [hg]; exact Nat.ne_of_gt (blk_lt (g := gb104) (o := .cells #[.int .u64 0, .int .u64 0, .int .u64 0, .int .u64 0] 24 (0, 0)) (by (with_reducible repeat (first | refine blk_drewN ?_ _ | refine blk_drew ?_ | refine blk_alloc ?_ _)); exact BK104.out)) : gb105 ≠ gb104)); clear BK103; clear BK104; clear HB; have BK103 := n0_; have BK104 := n1_; have HB := n2_; have BK105 := n3_; have GW105 := n4_; have GE105 := n5_; have NB103_105 := n6_; have NB105_103 := n7_; have NB104_105 := n8_; have NB105_104 := n9_; clear n0_ n1_ n2_ n3_ n4_ n5_ n6_ n7_ n8_ n9_; clear hb hbox hg))
  go_loopg [4] k (fun kq v4 w' => ∃ (x4_1 : Int) (x106000_1 : Int) (x106001_1 : Int) (x106002_1 : Int) (x106003_1 : Int), v4 = .int .i64 x4_1 ∧ Aside0 (runnelref02_Not.l0 kq x4_1 a0_0 a0_1 a0_2 a0_3 x106000_1 x106001_1 x106002_1 x106003_1 = some (r1, r2, r3, r4)) ∧ Aside0 (kq ≤ k) ∧ Aside0 (w'.heap[gb103]? = some (.cells #[.int .u64 a0_0, .int .u64 a0_1, .int .u64 a0_2, .int .u64 a0_3] 24 (0, 0))) ∧ Aside0 (w'.heap[gb104]? = some (.cells #[.int .u64 0, .int .u64 0, .int .u64 0, .int .u64 0] 24 (0, 0))) ∧ Aside0 (w'.heap[gb105]? = some (.cells #[.int .u64 x106000_1, .int .u64 x106001_1, .int .u64 x106002_1, .int .u64 x106003_1] 24 (0, 0))) ∧ Aside0 (Below w.heap.size w w'))
  case atStart => exact ⟨(0), (0), (0), (0), (0), (by first | rfl | (simp; done) | (simp [*]; done) | (exfalso; simp only [decide_eq_true_eq] at *; omega)), H', ⟨Nat.le_refl _⟩, ⟨by (with_reducible repeat (first | refine blk_drewN ?_ _ | refine blk_drew ?_ | refine blk_alloc ?_ _)); exact BK103.out⟩, ⟨by (with_reducible repeat (first | refine blk_drewN ?_ _ | refine blk_drew ?_ | refine blk_alloc ?_ _)); exact BK104.out⟩, ⟨by (with_reducible repeat (first | refine blk_drewN ?_ _ | refine blk_drew ?_ | refine blk_alloc ?_ _)); exact BK105.out⟩, ⟨by repeat (first | (with_reducible first | exact HB.out | apply below_alloc | apply pw_below_drewN | apply below_drew1 | refine below_set ?_ GE103.out | refine below_set ?_ GE104.out | refine below_set ?_ GE105.out) | exact HB.out)⟩⟩
  case round =>
    clear H'
    try clear c1
    try clear p2
    obtain ⟨x4_1, x106000_1, x106001_1, x106002_1, x106003_1, rfl, HA, HK1, BK103, BK104, BK105, HB⟩ := hrel
    cases gk with
    | zero => exact absurd HA.out (by simp [runnelref02_Not.l0])
    | succ k1 =>
      have H := HA.out
      clear HA
      simp only [runnelref02_Not.l0] at H
      by_cases c5 : x4_1 < 256
      · rw [if_pos c5] at H
        have c5b0 : decide (x4_1 < 256) = true := decide_eq_true c5
        clear c5
        replace H := Option.bind_eq_some_iff.mp H
        obtain ⟨t106, A60, H⟩ := H
        replace H : (if t106 = true then (runnelref02_Not.l0 k1 (wrap64 (x4_1 + 1)) a0_0 a0_1 a0_2 a0_3 x106000_1 x106001_1 x106002_1 x106003_1) else ((runnelref02_With.f x106000_1 x106001_1 x106002_1 x106003_1 x4_1).bind fun bt107 => (runnelref02_Not.l0 k1 (wrap64 (x4_1 + 1)) a0_0 a0_1 a0_2 a0_3 bt107.1 bt107.2.1 bt107.2.2.1 bt107.2.2.2))) = some (r1, r2, r3, r4) := H
        have A6 := Aside0.mk A60
        clear A60
        by_cases c7 : t106 = true
        · subst c7
          have H1 : (runnelref02_Not.l0 k1 (wrap64 (x4_1 + 1)) a0_0 a0_1 a0_2 a0_3 x106000_1 x106001_1 x106002_1 x106003_1) = some (r1, r2, r3, r4) := by rw [if_pos rfl] at H; exact H
          clear H
          have H := H1
          clear H1
          have H' := Aside0.mk H
          clear H
          have hnb8 := NB103_104.out
          have hnc8 := NB104_103.out
          have hnb9 := NB103_105.out
          have hnc9 := NB105_103.out
          have hcz10_0 : wr.cell? ⟨gb103, 0, none⟩ = some (.int .u64 a0_0) := (blk_cell BK103.out 0).trans rfl
          have hcz10_1 : wr.cell? ⟨gb103, 1, none⟩ = some (.int .u64 a0_1) := (blk_cell BK103.out 1).trans rfl
          have hcz10_2 : wr.cell? ⟨gb103, 2, none⟩ = some (.int .u64 a0_2) := (blk_cell BK103.out 2).trans rfl
          have hcz10_3 : wr.cell? ⟨gb103, 3, none⟩ = some (.int .u64 a0_3) := (blk_cell BK103.out 3).trans rfl
          have hfz10_0 := blk_frozen BK103.out 0
          have hfz10_1 := blk_frozen BK103.out 1
          have hfz10_2 := blk_frozen BK103.out 2
          have hfz10_3 := blk_frozen BK103.out 3
          go_wp2_with (first | ((with_reducible refine gate_callee (f := 31) rfl ?_); refine goesL_ (some 11) rfl rfl Tryd.func31 (by kernel_rfl) rfl #[.agg #[.int .u64 a0_0, .int .u64 a0_1, .int .u64 a0_2, .int .u64 a0_3], .int .i64 x4_1] rfl (by (try simp only [List.map_toArray, List.map_cons, List.map_nil]); first | done | rfl | (simp only [List.length_drop, List.length_take]; rfl)) ?_; (with_reducible refine (runnelref02_Has.calls a0_0 a0_1 a0_2 a0_3 x4_1 true _ A6.out).mono ?_); rintro e w11 ⟨rfl, hb⟩; refine ⟨_, rfl, ?_⟩; have n0_ := Aside0.mk (blk_below (g := gb103) (o := .cells #[.int .u64 a0_0, .int .u64 a0_1, .int .u64 a0_2, .int .u64 a0_3] 24 (0, 0)) (by (with_reducible repeat (first | refine blk_drewN ?_ _ | refine blk_drew ?_ | refine blk_alloc ?_ _)); exact BK103.out) hb); have n1_ := Aside0.mk (blk_below (g := gb104) (o := .cells #[.int .u64 0, .int .u64 0, .int .u64 0, .int .u64 0] 24 (0, 0)) (by (with_reducible repeat (first | refine blk_drewN ?_ _ | refine blk_drew ?_ | refine blk_alloc ?_ _)); exact BK104.out) hb); have n2_ := Aside0.mk (blk_below (g := gb105) (o := .cells #[.int .u64 x106000_1, .int .u64 x106001_1, .int .u64 x106002_1, .int .u64 x106003_1] 24 (0, 0)) (by (with_reducible repeat (first | refine blk_drewN ?_ _ | refine blk_drew ?_ | refine blk_alloc ?_ _)); exact BK105.out) hb); have n3_ := Aside0.mk (below_step (by repeat (first | (with_reducible first | exact HB.out | apply below_alloc | apply pw_below_drewN | apply below_drew1 | refine below_set ?_ GE103.out | refine below_set ?_ GE104.out | refine below_set ?_ GE105.out) | exact HB.out)) hb); clear BK103; clear BK104; clear BK105; clear HB; have BK103 := n0_; have BK104 := n1_; have BK105 := n2_; have HB := n3_; clear n0_ n1_ n2_ n3_; (try clear hb); (try clear hb2); (try clear hk); (try clear hi)))
          go_roundg k1
          case measure => have := HK1.out; omega
          case rel => exact ⟨(wrap64 (x4_1 + 1)), (x106000_1), (x106001_1), (x106002_1), (x106003_1), (by first | rfl | (simp; done) | (simp [*]; done) | (exfalso; simp only [decide_eq_true_eq] at *; omega)), H', ⟨by have := HK1.out; omega⟩, ⟨by (with_reducible repeat (first | refine blk_drewN ?_ _ | refine blk_drew ?_ | refine blk_alloc ?_ _)); exact BK103.out⟩, ⟨by (with_reducible repeat (first | refine blk_drewN ?_ _ | refine blk_drew ?_ | refine blk_alloc ?_ _)); exact BK104.out⟩, ⟨by (with_reducible repeat (first | refine blk_drewN ?_ _ | refine blk_drew ?_ | refine blk_alloc ?_ _)); exact BK105.out⟩, ⟨by repeat (first | (with_reducible first | exact HB.out | apply below_alloc | apply pw_below_drewN | apply below_drew1 | refine below_set ?_ GE103.out | refine below_set ?_ GE104.out | refine below_set ?_ GE105.out) | exact HB.out)⟩⟩
        · replace c7 := Bool.eq_false_iff.mpr c7
          subst c7
          have H1 : ((runnelref02_With.f x106000_1 x106001_1 x106002_1 x106003_1 x4_1).bind fun bt107 => (runnelref02_Not.l0 k1 (wrap64 (x4_1 + 1)) a0_0 a0_1 a0_2 a0_3 bt107.1 bt107.2.1 bt107.2.2.1 bt107.2.2.2)) = some (r1, r2, r3, r4) := by rw [if_neg (show ¬ (false = true) by decide)] at H; exact H
          clear H
          have H := H1
          clear H1
          replace H := Option.bind_eq_some_iff.mp H
          obtain ⟨⟨t107, t108, t109, t110⟩, A120, H⟩ := H
          replace H : (runnelref02_Not.l0 k1 (wrap64 (x4_1 + 1)) a0_0 a0_1 a0_2 a0_3 t107 t108 t109 t110) = some (r1, r2, r3, r4) := H
          have A12 := Aside0.mk A120
          clear A120
          have H' := Aside0.mk H
          clear H
          have hnb13 := NB103_104.out
          have hnc13 := NB104_103.out
          have hnb14 := NB103_105.out
          have hnc14 := NB105_103.out
          have hcz15_0 : wr.cell? ⟨gb103, 0, none⟩ = some (.int .u64 a0_0) := (blk_cell BK103.out 0).trans rfl
          have hcz15_1 : wr.cell? ⟨gb103, 1, none⟩ = some (.int .u64 a0_1) := (blk_cell BK103.out 1).trans rfl
          have hcz15_2 : wr.cell? ⟨gb103, 2, none⟩ = some (.int .u64 a0_2) := (blk_cell BK103.out 2).trans rfl
          have hcz15_3 : wr.cell? ⟨gb103, 3, none⟩ = some (.int .u64 a0_3) := (blk_cell BK103.out 3).trans rfl
          have hfz15_0 := blk_frozen BK103.out 0
          have hfz15_1 := blk_frozen BK103.out 1
          have hfz15_2 := blk_frozen BK103.out 2
          have hfz15_3 := blk_frozen BK103.out 3
          go_wp2_with (first | ((with_reducible refine gate_callee (f := 31) rfl ?_); refine goesL_ (some 11) rfl rfl Tryd.func31 (by kernel_rfl) rfl #[.agg #[.int .u64 a0_0, .int .u64 a0_1, .int .u64 a0_2, .int .u64 a0_3], .int .i64 x4_1] rfl (by (try simp only [List.map_toArray, List.map_cons, List.map_nil]); first | done | rfl | (simp only [List.length_drop, List.length_take]; rfl)) ?_; (with_reducible refine (runnelref02_Has.calls a0_0 a0_1 a0_2 a0_3 x4_1 false _ A6.out).mono ?_); rintro e w16 ⟨rfl, hb⟩; refine ⟨_, rfl, ?_⟩; have n0_ := Aside0.mk (blk_below (g := gb103) (o := .cells #[.int .u64 a0_0, .int .u64 a0_1, .int .u64 a0_2, .int .u64 a0_3] 24 (0, 0)) (by (with_reducible repeat (first | refine blk_drewN ?_ _ | refine blk_drew ?_ | refine blk_alloc ?_ _)); exact BK103.out) hb); have n1_ := Aside0.mk (blk_below (g := gb104) (o := .cells #[.int .u64 0, .int .u64 0, .int .u64 0, .int .u64 0] 24 (0, 0)) (by (with_reducible repeat (first | refine blk_drewN ?_ _ | refine blk_drew ?_ | refine blk_alloc ?_ _)); exact BK104.out) hb); have n2_ := Aside0.mk (blk_below (g := gb105) (o := .cells #[.int .u64 x106000_1, .int .u64 x106001_1, .int .u64 x106002_1, .int .u64 x106003_1] 24 (0, 0)) (by (with_reducible repeat (first | refine blk_drewN ?_ _ | refine blk_drew ?_ | refine blk_alloc ?_ _)); exact BK105.out) hb); have n3_ := Aside0.mk (below_step (by repeat (first | (with_reducible first | exact HB.out | apply below_alloc | apply pw_below_drewN | apply below_drew1 | refine below_set ?_ GE103.out | refine below_set ?_ GE104.out | refine below_set ?_ GE105.out) | exact HB.out)) hb); clear BK103; clear BK104; clear BK105; clear HB; have BK103 := n0_; have BK104 := n1_; have BK105 := n2_; have HB := n3_; clear n0_ n1_ n2_ n3_; (try clear hb); (try clear hb2); (try clear hk); (try clear hi); have hnb17 := NB105_104.out; have hnc17 := NB104_105.out; have hcz18_0 : w16.cell? ⟨gb105, 0, none⟩ = some (.int .u64 x106000_1) := (blk_cell BK105.out 0).trans rfl; have hcz18_1 : w16.cell? ⟨gb105, 1, none⟩ = some (.int .u64 x106001_1) := (blk_cell BK105.out 1).trans rfl; have hcz18_2 : w16.cell? ⟨gb105, 2, none⟩ = some (.int .u64 x106002_1) := (blk_cell BK105.out 2).trans rfl; have hcz18_3 : w16.cell? ⟨gb105, 3, none⟩ = some (.int .u64 x106003_1) := (blk_cell BK105.out 3).trans rfl; have hfz18_0 := blk_frozen BK105.out 0; have hfz18_1 := blk_frozen BK105.out 1; have hfz18_2 := blk_frozen BK105.out 2; have hfz18_3 := blk_frozen BK105.out 3) | ((with_reducible refine gate_callee (f := 32) rfl ?_); refine goesL_ (some 15) rfl rfl Tryd.func32 (by kernel_rfl) rfl #[.agg #[.int .u64 x106000_1, .int .u64 x106001_1, .int .u64 x106002_1, .int .u64 x106003_1], .int .i64 x4_1] rfl (by (try simp only [List.map_toArray, List.map_cons, List.map_nil]); first | done | rfl | (simp only [List.length_drop, List.length_take]; rfl)) ?_; (with_reducible refine (runnelref02_With.calls x106000_1 x106001_1 x106002_1 x106003_1 x4_1 t107 t108 t109 t110 _ A12.out).mono ?_); rintro e w19 ⟨rfl, hb⟩; refine ⟨_, rfl, ?_⟩; have n0_ := Aside0.mk (blk_below (g := gb103) (o := .cells #[.int .u64 a0_0, .int .u64 a0_1, .int .u64 a0_2, .int .u64 a0_3] 24 (0, 0)) (by (with_reducible repeat (first | refine blk_drewN ?_ _ | refine blk_drew ?_ | refine blk_alloc ?_ _)); exact BK103.out) hb); have n1_ := Aside0.mk (blk_below (g := gb104) (o := .cells #[.int .u64 0, .int .u64 0, .int .u64 0, .int .u64 0] 24 (0, 0)) (by (with_reducible repeat (first | refine blk_drewN ?_ _ | refine blk_drew ?_ | refine blk_alloc ?_ _)); exact BK104.out) hb); have n2_ := Aside0.mk (blk_below (g := gb105) (o := .cells #[.int .u64 x106000_1, .int .u64 x106001_1, .int .u64 x106002_1, .int .u64 x106003_1] 24 (0, 0)) (by (with_reducible repeat (first | refine blk_drewN ?_ _ | refine blk_drew ?_ | refine blk_alloc ?_ _)); exact BK105.out) hb); have n3_ := Aside0.mk (below_step (by repeat (first | (with_reducible first | exact HB.out | apply below_alloc | apply pw_below_drewN | apply below_drew1 | refine below_set ?_ GE103.out | refine below_set ?_ GE104.out | refine below_set ?_ GE105.out) | exact HB.out)) hb); clear BK103; clear BK104; clear BK105; clear HB; have BK103 := n0_; have BK104 := n1_; have BK105 := n2_; have HB := n3_; clear n0_ n1_ n2_ n3_; (try clear hb); (try clear hb2); (try clear hk); (try clear hi); have hcz20_0 : w19.cell? ⟨gb105, 0, none⟩ = some (.int .u64 x106000_1) := (blk_cell BK105.out 0).trans rfl; have hcz20_1 : w19.cell? ⟨gb105, 1, none⟩ = some (.int .u64 x106001_1) := (blk_cell BK105.out 1).trans rfl; have hcz20_2 : w19.cell? ⟨gb105, 2, none⟩ = some (.int .u64 x106002_1) := (blk_cell BK105.out 2).trans rfl; have hcz20_3 : w19.cell? ⟨gb105, 3, none⟩ = some (.int .u64 x106003_1) := (blk_cell BK105.out 3).trans rfl; have hfz20_0 := blk_frozen BK105.out 0; have hfz20_1 := blk_frozen BK105.out 1; have hfz20_2 := blk_frozen BK105.out 2; have hfz20_3 := blk_frozen BK105.out 3))
          go_roundg k1
          case measure => have := HK1.out; omega
          case rel => exact ⟨(wrap64 (x4_1 + 1)), (t107), (t108), (t109), (t110), (by first | rfl | (simp; done) | (simp [*]; done) | (exfalso; simp only [decide_eq_true_eq] at *; omega)), H', ⟨by have := HK1.out; omega⟩, ⟨by (with_reducible repeat (first | refine blk_drewN ?_ _ | refine blk_drew ?_ | refine blk_alloc ?_ _)); refine blk_far ?_ NB103_105.out _; (with_reducible repeat (first | refine blk_drewN ?_ _ | refine blk_drew ?_ | refine blk_alloc ?_ _)); refine blk_far ?_ NB103_105.out _; (with_reducible repeat (first | refine blk_drewN ?_ _ | refine blk_drew ?_ | refine blk_alloc ?_ _)); refine blk_far ?_ NB103_105.out _; (with_reducible repeat (first | refine blk_drewN ?_ _ | refine blk_drew ?_ | refine blk_alloc ?_ _)); refine blk_far ?_ NB103_105.out _; (with_reducible repeat (first | refine blk_drewN ?_ _ | refine blk_drew ?_ | refine blk_alloc ?_ _)); exact BK103.out⟩, ⟨by (with_reducible repeat (first | refine blk_drewN ?_ _ | refine blk_drew ?_ | refine blk_alloc ?_ _)); refine blk_far ?_ NB104_105.out _; (with_reducible repeat (first | refine blk_drewN ?_ _ | refine blk_drew ?_ | refine blk_alloc ?_ _)); refine blk_far ?_ NB104_105.out _; (with_reducible repeat (first | refine blk_drewN ?_ _ | refine blk_drew ?_ | refine blk_alloc ?_ _)); refine blk_far ?_ NB104_105.out _; (with_reducible repeat (first | refine blk_drewN ?_ _ | refine blk_drew ?_ | refine blk_alloc ?_ _)); refine blk_far ?_ NB104_105.out _; (with_reducible repeat (first | refine blk_drewN ?_ _ | refine blk_drew ?_ | refine blk_alloc ?_ _)); exact BK104.out⟩, ⟨by (with_reducible repeat (first | refine blk_drewN ?_ _ | refine blk_drew ?_ | refine blk_alloc ?_ _)); refine blk_put (cs := #[.int .u64 t107, .int .u64 t108, .int .u64 t109, .int .u64 x106003_1]) ?_ 3 _ rfl; (with_reducible repeat (first | refine blk_drewN ?_ _ | refine blk_drew ?_ | refine blk_alloc ?_ _)); refine blk_put (cs := #[.int .u64 t107, .int .u64 t108, .int .u64 x106002_1, .int .u64 x106003_1]) ?_ 2 _ rfl; (with_reducible repeat (first | refine blk_drewN ?_ _ | refine blk_drew ?_ | refine blk_alloc ?_ _)); refine blk_put (cs := #[.int .u64 t107, .int .u64 x106001_1, .int .u64 x106002_1, .int .u64 x106003_1]) ?_ 1 _ rfl; (with_reducible repeat (first | refine blk_drewN ?_ _ | refine blk_drew ?_ | refine blk_alloc ?_ _)); refine blk_put (cs := #[.int .u64 x106000_1, .int .u64 x106001_1, .int .u64 x106002_1, .int .u64 x106003_1]) ?_ 0 _ rfl; (with_reducible repeat (first | refine blk_drewN ?_ _ | refine blk_drew ?_ | refine blk_alloc ?_ _)); exact BK105.out⟩, ⟨by repeat (first | (with_reducible first | exact HB.out | apply below_alloc | apply pw_below_drewN | apply below_drew1 | refine below_set ?_ GE103.out | refine below_set ?_ GE104.out | refine below_set ?_ GE105.out) | exact HB.out)⟩⟩
      · rw [if_neg c5] at H
        have c5b0 : decide (x4_1 < 256) = false := decide_eq_false c5
        clear c5
        simp only [Option.some.injEq, Prod.mk.injEq] at H
        obtain ⟨rfl, rfl, rfl, rfl⟩ := H
        have hnb21 := NB105_103.out
        have hnc21 := NB103_105.out
        have hnb22 := NB105_104.out
        have hnc22 := NB104_105.out
        have hcz23_0 : wr.cell? ⟨gb105, 0, none⟩ = some (.int .u64 x106000_1) := (blk_cell BK105.out 0).trans rfl
        have hcz23_1 : wr.cell? ⟨gb105, 1, none⟩ = some (.int .u64 x106001_1) := (blk_cell BK105.out 1).trans rfl
        have hcz23_2 : wr.cell? ⟨gb105, 2, none⟩ = some (.int .u64 x106002_1) := (blk_cell BK105.out 2).trans rfl
        have hcz23_3 : wr.cell? ⟨gb105, 3, none⟩ = some (.int .u64 x106003_1) := (blk_cell BK105.out 3).trans rfl
        have hfz23_0 := blk_frozen BK105.out 0
        have hfz23_1 := blk_frozen BK105.out 1
        have hfz23_2 := blk_frozen BK105.out 2
        have hfz23_3 := blk_frozen BK105.out 3
        have hnb24 := NB104_103.out
        have hnc24 := NB103_104.out
        have hcz25_0 : wr.cell? ⟨gb104, 0, none⟩ = some (.int .u64 0) := (blk_cell BK104.out 0).trans rfl
        have hcz25_1 : wr.cell? ⟨gb104, 1, none⟩ = some (.int .u64 0) := (blk_cell BK104.out 1).trans rfl
        have hcz25_2 : wr.cell? ⟨gb104, 2, none⟩ = some (.int .u64 0) := (blk_cell BK104.out 2).trans rfl
        have hcz25_3 : wr.cell? ⟨gb104, 3, none⟩ = some (.int .u64 0) := (blk_cell BK104.out 3).trans rfl
        have hfz25_0 := blk_frozen BK104.out 0
        have hfz25_1 := blk_frozen BK104.out 1
        have hfz25_2 := blk_frozen BK104.out 2
        have hfz25_3 := blk_frozen BK104.out 3
        go_wp2
        refine bodyPost_ret (results_cell_row rfl _ _ gb104 24 #[.int .u64 x106000_1, .int .u64 x106001_1, .int .u64 x106002_1, .int .u64 x106003_1] (0, 0) _ rfl (by (with_reducible repeat (first | refine blk_drewN ?_ _ | refine blk_drew ?_ | refine blk_alloc ?_ _)); refine blk_put (cs := #[.int .u64 x106000_1, .int .u64 x106001_1, .int .u64 x106002_1, .int .u64 0]) ?_ 3 _ rfl; (with_reducible repeat (first | refine blk_drewN ?_ _ | refine blk_drew ?_ | refine blk_alloc ?_ _)); refine blk_put (cs := #[.int .u64 x106000_1, .int .u64 x106001_1, .int .u64 0, .int .u64 0]) ?_ 2 _ rfl; (with_reducible repeat (first | refine blk_drewN ?_ _ | refine blk_drew ?_ | refine blk_alloc ?_ _)); refine blk_put (cs := #[.int .u64 x106000_1, .int .u64 0, .int .u64 0, .int .u64 0]) ?_ 1 _ rfl; (with_reducible repeat (first | refine blk_drewN ?_ _ | refine blk_drew ?_ | refine blk_alloc ?_ _)); refine blk_put (cs := #[.int .u64 0, .int .u64 0, .int .u64 0, .int .u64 0]) ?_ 0 _ rfl; (with_reducible repeat (first | refine blk_drewN ?_ _ | refine blk_drew ?_ | refine blk_alloc ?_ _)); exact BK104.out) Tryd.underlying24 rfl (by kernel_rfl)) rfl ?_
        exact ⟨by first | rfl | (simp only [wrap_wrap]; done) | (simp only [wrap_wrap]; rfl) | (simp [errW_none, errW_some] <;> rfl) | (simp [*, errW_none, errW_some] <;> rfl), by repeat (first | (with_reducible first | exact HB.out | apply below_alloc | apply pw_below_drewN | apply below_drew1 | refine below_set ?_ GE103.out | refine below_set ?_ GE104.out | refine below_set ?_ GE105.out) | exact HB.out)⟩
end Go.Proofs.YtcmipoicnonaeaaDoor.F
end
section
namespace Go.Proofs.YtcmipoicnonaeaaDoor.F
open Go.RowKit Go.Proofs.YtcmipoicnonaeaaDoorW.PrintWords Go.Proofs.YtcmipoicnonaeaaDoorW.PrintLast Go.Proofs.YtcmipoicnonaeaaDoorW.PrintMore
attribute [local go_sem] max2_int min2_int max_two min_two max_three min_three max_four min_four
set_option linter.unusedVariables false
set_option linter.unusedSimpArgs false
def runnelref02_Or.l0 : Nat → Int → Int → Int → Int → Int → Int → Int → Int → Int → Int → Int → Int → Int → Option (Int × Int × Int × Int)
  | 0, _, _, _, _, _, _, _, _, _, _, _, _, _ => none
  | k + 1, x6, x112000, x112001, x112002, x112003, x113000, x113001, x113002, x113003, x115000, x115001, x115002, x115003 => if x6 < 256 then ((runnelref02_Has.f x112000 x112001 x112002 x112003 x6).bind fun t115 => (if t115 = true then ((runnelref02_With.f x115000 x115001 x115002 x115003 x6).bind fun bt116 => (runnelref02_Or.l0 k (wrap64 (x6 + 1)) x112000 x112001 x112002 x112003 x113000 x113001 x113002 x113003 bt116.1 bt116.2.1 bt116.2.2.1 bt116.2.2.2)) else ((runnelref02_Has.f x113000 x113001 x113002 x113003 x6).bind fun t120 => (if t120 = true then ((runnelref02_With.f x115000 x115001 x115002 x115003 x6).bind fun bt121 => (runnelref02_Or.l0 k (wrap64 (x6 + 1)) x112000 x112001 x112002 x112003 x113000 x113001 x113002 x113003 bt121.1 bt121.2.1 bt121.2.2.1 bt121.2.2.2)) else (runnelref02_Or.l0 k (wrap64 (x6 + 1)) x112000 x112001 x112002 x112003 x113000 x113001 x113002 x113003 x115000 x115001 x115002 x115003))))) else (some (x115000, x115001, x115002, x115003))
def runnelref02_Or.f (k : Nat) (a0_0 : Int) (a0_1 : Int) (a0_2 : Int) (a0_3 : Int) (a1_0 : Int) (a1_1 : Int) (a1_2 : Int) (a1_3 : Int) : Option (Int × Int × Int × Int) := runnelref02_Or.l0 k 0 a0_0 a0_1 a0_2 a0_3 a1_0 a1_1 a1_2 a1_3 0 0 0 0
theorem runnelref02_Or.mono_l : ∀ k, (∀ y0 y1 y2 y3 y4 y5 y6 y7 y8 y9 y10 y11 y12, LeO (runnelref02_Or.l0 k y0 y1 y2 y3 y4 y5 y6 y7 y8 y9 y10 y11 y12) (runnelref02_Or.l0 (k + 1) y0 y1 y2 y3 y4 y5 y6 y7 y8 y9 y10 y11 y12))
  | 0 => fun _ _ _ _ _ _ _ _ _ _ _ _ _ r h => by simp [runnelref02_Or.l0] at h
  | k + 1 => by
    have ih0 := runnelref02_Or.mono_l k
    · intro y0 y1 y2 y3 y4 y5 y6 y7 y8 y9 y10 y11 y12
      unfold runnelref02_Or.l0
      repeat' first
      | (with_reducible exact ih0 _ _ _ _ _ _ _ _ _ _ _ _ _)
      | (with_reducible exact LeO.refl _)
      | (with_reducible exact LeO.none _)
      | (with_reducible refine LeO.ite ?_ ?_)
      | (with_reducible refine LeO.bind ?_ (fun _ => ?_))
      | exact ih0 _ _ _ _ _ _ _ _ _ _ _ _ _
      | exact LeO.none _
      | refine LeO.ite ?_ ?_
      | refine LeO.bind ?_ (fun _ => ?_)
theorem runnelref02_Or.mono : ∀ a0 a1 a2 a3 a4 a5 a6 a7 k, LeO (runnelref02_Or.f k a0 a1 a2 a3 a4 a5 a6 a7) (runnelref02_Or.f (k + 1) a0 a1 a2 a3 a4 a5 a6 a7) := by
  intro a0 a1 a2 a3 a4 a5 a6 a7 k
  have ih0 := runnelref02_Or.mono_l k
  unfold runnelref02_Or.f
  repeat' first
      | (with_reducible exact ih0 _ _ _ _ _ _ _ _ _ _ _ _ _)
      | (with_reducible exact LeO.refl _)
      | (with_reducible exact LeO.none _)
      | (with_reducible refine LeO.ite ?_ ?_)
      | (with_reducible refine LeO.bind ?_ (fun _ => ?_))
      | exact ih0 _ _ _ _ _ _ _ _ _ _ _ _ _
      | exact LeO.none _
      | refine LeO.ite ?_ ?_
      | refine LeO.bind ?_ (fun _ => ?_)
set_option maxHeartbeats 8000000 in
set_option maxRecDepth 100000 in
theorem runnelref02_Or.calls (k : Nat) (a0_0 : Int) (a0_1 : Int) (a0_2 : Int) (a0_3 : Int) (a1_0 : Int) (a1_1 : Int) (a1_2 : Int) (a1_3 : Int) (r1 : Int) (r2 : Int) (r3 : Int) (r4 : Int) (w : World) (h : runnelref02_Or.f k a0_0 a0_1 a0_2 a0_3 a1_0 a1_1 a1_2 a1_3 = some (r1, r2, r3, r4)) :
    Calls Tryd.prog 16 #[.agg #[.int .u64 a0_0, .int .u64 a0_1, .int .u64 a0_2, .int .u64 a0_3], .agg #[.int .u64 a1_0, .int .u64 a1_1, .int .u64 a1_2, .int .u64 a1_3]] w fun e w' => e = .returned (.agg #[.int .u64 r1, .int .u64 r2, .int .u64 r3, .int .u64 r4]) ∧ Below w.heap.size w w' := by
  have hu24 := Tryd.underlying24
  have HB := Aside0.mk (Below.refl w.heap.size w)
  have H : (runnelref02_Or.l0 k 0 a0_0 a0_1 a0_2 a0_3 a1_0 a1_1 a1_2 a1_3 0 0 0 0) = some (r1, r2, r3, r4) := h
  clear h
  have H' := Aside0.mk H
  clear H
  go_enter Tryd.func16, Tryd.ntmps16
  go_wp2_with (first | ((with_reducible refine gate_dst (N := 2) rfl ?_); refine box_event ?hg (N := 2) ?hd (cs := #[.int .u64 a0_0, .int .u64 a0_1, .int .u64 a0_2, .int .u64 a0_3]) (t := 24) ?hr ?_; (case hd => rfl); (case hg => rfl); (case hr => first | (go_simp; done) | (go_simp; rfl)); intro gb111 hg w3 hbox hb; have n0_ := Aside0.mk (below_step (by repeat (first | (with_reducible first | exact HB.out | apply below_alloc | apply pw_below_drewN | apply below_drew1) | exact HB.out)) hb); have n1_ := Aside0.mk (hbox); have n2_ := Aside0.mk ((by rw [hg]; exact (below_size (by repeat (first | (with_reducible first | exact HB.out | apply below_alloc | apply pw_below_drewN | apply below_drew1) | exact HB.out))) : w.heap.size ≤ gb111)); have n3_ := Aside0.mk ((by rw [hg]; exact (below_size (by repeat (first | (with_reducible first | exact HB.out | apply below_alloc | apply pw_below_drewN | apply below_drew1) | exact HB.out))) : w.heap.size ≤ gb111)); clear HB; have HB := n0_; have BK111 := n1_; have GW111 := n2_; have GE111 := n3_; clear n0_ n1_ n2_ n3_; clear hb hbox hg) | ((with_reducible refine gate_dst (N := 3) rfl ?_); refine box_event ?hg (N := 3) ?hd (cs := #[.int .u64 a1_0, .int .u64 a1_1, .int .u64 a1_2, .int .u64 a1_3]) (t := 24) ?hr ?_; (case hd => rfl); (case hg => rfl); (case hr => first | (go_simp; done) | (go_simp; rfl)); intro gb112 hg w4 hbox hb; have n0_ := Aside0.mk (blk_below (g := gb111) (o := .cells #[.int .u64 a0_0, .int .u64 a0_1, .int .u64 a0_2, .int .u64 a0_3] 24 (0, 0)) (by (with_reducible repeat (first | refine blk_drewN ?_ _ | refine blk_drew ?_ | refine blk_alloc ?_ _)); exact BK111.out) hb); have n1_ := Aside0.mk (below_step (by repeat (first | (with_reducible first | exact HB.out | apply below_alloc | apply pw_below_drewN | apply below_drew1 | refine below_set ?_ GE111.out) | exact HB.out)) hb); have n2_ := Aside0.mk (hbox); have n3_ := Aside0.mk ((by rw [hg]; exact (below_size (by repeat (first | (with_reducible first | exact HB.out | apply below_alloc | apply pw_below_drewN | apply below_drew1 | refine below_set ?_ GE111.out) | exact HB.out))) : w.heap.size ≤ gb112)); have n4_ := Aside0.mk ((by rw [hg]; exact (below_size (by repeat (first | (with_reducible first | exact HB.out | apply below_alloc | apply pw_below_drewN | apply below_drew1 | refine below_set ?_ GE111.out) | exact HB.out))) : w.heap.size ≤ gb112)); have n5_ := Aside0.mk ((by rw [hg]; exact Nat.ne_of_lt (blk_lt (g := gb111) (o := .cells #[.int .u64 a0_0, .int .u64 a0_1, .int .u64 a0_2, .int .u64 a0_3] 24 (0, 0)) (by (with_reducible repeat (first | refine blk_drewN ?_ _ | refine blk_drew ?_ | refine blk_alloc ?_ _)); exact BK111.out)) : gb111 ≠ gb112)); have n6_ := Aside0.mk ((by rw [hg]; exact Nat.ne_of_gt (blk_lt (g := gb111) (o := .cells #[.int .u64 a0_0, .int .u64 a0_1, .int .u64 a0_2, .int .u64 a0_3] 24 (0, 0)) (by (with_reducible repeat (first | refine blk_drewN ?_ _ | refine blk_drew ?_ | refine blk_alloc ?_ _)); exact BK111.out)) : gb112 ≠ gb111)); clear BK111; clear HB; have BK111 := n0_; have HB := n1_; have BK112 := n2_; have GW112 := n3_; have GE112 := n4_; have NB111_112 := n5_; have NB112_111 := n6_; clear n0_ n1_ n2_ n3_ n4_ n5_ n6_; clear hb hbox hg) | ((with_reducible refine gate_dst (N := 4) rfl ?_); refine box_event ?hg (N := 4) ?hd (cs := #[.int .u64 0, .int .u64 0, .int .u64 0, .int .u64 0]) (t := 24) ?hr ?_; (case hd => rfl); (case hg => rfl); (case hr => first | (go_simp; done) | (go_simp; rfl)); intro gb113 hg w5 hbox hb; have n0_ := Aside0.mk (blk_below (g := gb111) (o := .cells #[.int .u64 a0_0, .int .u64 a0_1, .int .u64 a0_2, .int .u64 a0_3] 24 (0, 0)) (by (with_reducible repeat (first | refine blk_drewN ?_ _ | refine blk_drew ?_ | refine blk_alloc ?_ _)); exact BK111.out) hb); have n1_ := Aside0.mk (blk_below (g := gb112) (o := .cells #[.int .u64 a1_0, .int .u64 a1_1, .int .u64 a1_2, .int .u64 a1_3] 24 (0, 0)) (by (with_reducible repeat (first | refine blk_drewN ?_ _ | refine blk_drew ?_ | refine blk_alloc ?_ _)); exact BK112.out) hb); have n2_ := Aside0.mk (below_step (by repeat (first | (with_reducible first | exact HB.out | apply below_alloc | apply pw_below_drewN | apply below_drew1 | refine below_set ?_ GE111.out | refine below_set ?_ GE112.out) | exact HB.out)) hb); have n3_ := Aside0.mk (hbox); have n4_ := Aside0.mk ((by rw [hg]; exact (below_size (by repeat (first | (with_reducible first | exact HB.out | apply below_alloc | apply pw_below_drewN | apply below_drew1 | refine below_set ?_ GE111.out | refine below_set ?_ GE112.out) | exact HB.out))) : w.heap.size ≤ gb113)); have n5_ := Aside0.mk ((by rw [hg]; exact (below_size (by repeat (first | (with_reducible first | exact HB.out | apply below_alloc | apply pw_below_drewN | apply below_drew1 | refine below_set ?_ GE111.out | refine below_set ?_ GE112.out) | exact HB.out))) : w.heap.size ≤ gb113)); have n6_ := Aside0.mk ((by rw [hg]; exact Nat.ne_of_lt (blk_lt (g := gb111) (o := .cells #[.int .u64 a0_0, .int .u64 a0_1, .int .u64 a0_2, .int .u64 a0_3] 24 (0, 0)) (by (with_reducible repeat (first | refine blk_drewN ?_ _ | refine blk_drew ?_ | refine blk_alloc ?_ _)); exact BK111.out)) : gb111 ≠ gb113)); have n7_ := Aside0.mk ((by rw [hg]; exact Nat.ne_of_gt (blk_lt (g := gb111) (o := .cells #[.int .u64 a0_0, .int .u64 a0_1, .int .u64 a0_2, .int .u64 a0_3] 24 (0, 0)) (by (with_reducible repeat (first | refine blk_drewN ?_ _ | refine blk_drew ?_ | refine blk_alloc ?_ _)); exact BK111.out)) : gb113 ≠ gb111)); have n8_ := Aside0.mk ((by rw [hg]; exact Nat.ne_of_lt (blk_lt (g := gb112) (o := .cells #[.int .u64 a1_0, .int .u64 a1_1, .int .u64 a1_2, .int .u64 a1_3] 24 (0, 0)) (by (with_reducible repeat (first | refine blk_drewN ?_ _ | refine blk_drew ?_ | refine blk_alloc ?_ _)); exact BK112.out)) : gb112 ≠ gb113)); have n9_ := Aside0.mk ((by rw [hg]; exact Nat.ne_of_gt (blk_lt (g := gb112) (o := .cells #[.int .u64 a1_0, .int .u64 a1_1, .int .u64 a1_2, .int .u64 a1_3] 24 (0, 0)) (by (with_reducible repeat (first | refine blk_drewN ?_ _ | refine blk_drew ?_ | refine blk_alloc ?_ _)); exact BK112.out)) : gb113 ≠ gb112)); clear BK111; clear BK112; clear HB; have BK111 := n0_; have BK112 := n1_; have HB := n2_; have BK113 := n3_; have GW113 := n4_; have GE113 := n5_; have NB111_113 := n6_; have NB113_111 := n7_; have NB112_113 := n8_; have NB113_112 := n9_; clear n0_ n1_ n2_ n3_ n4_ n5_ n6_ n7_ n8_ n9_; clear hb hbox hg) | ((with_reducible refine gate_dst (N := 5) rfl ?_); refine box_event ?hg (N := 5) ?hd (cs := #[.int .u64 0, .int .u64 0, .int .u64 0, .int .u64 0]) (t := 24) ?hr ?_; (case hd => rfl); (case hg => rfl); (case hr => first | (go_simp; done) | (go_simp; rfl)); intro gb114 hg w6 hbox hb; have n0_ := Aside0.mk (blk_below (g := gb111) (o := .cells #[.int .u64 a0_0, .int .u64 a0_1, .int .u64 a0_2, .int .u64 a0_3] 24 (0, 0)) (by (with_reducible repeat (first | refine blk_drewN ?_ _ | refine blk_drew ?_ | refine blk_alloc ?_ _)); exact BK111.out) hb); have n1_ := Aside0.mk (blk_below (g := gb112) (o := .cells #[.int .u64 a1_0, .int .u64 a1_1, .int .u64 a1_2, .int .u64 a1_3] 24 (0, 0)) (by (with_reducible repeat (first | refine blk_drewN ?_ _ | refine blk_drew ?_ | refine blk_alloc ?_ _)); exact BK112.out) hb); have n2_ := Aside0.mk (blk_below (g := gb113) (o := .cells #[.int .u64 0, .int .u64 0, .int .u64 0, .int .u64 0] 24 (0, 0)) (by (with_reducible repeat (first | refine blk_drewN ?_ _ | refine blk_drew ?_ | refine blk_alloc ?_ _)); exact BK113.out) hb); have n3_ := Aside0.mk (below_step (by repeat (first | (with_reducible first | exact HB.out | apply below_alloc | apply pw_below_drewN | apply below_drew1 | refine below_set ?_ GE111.out | refine below_set ?_ GE112.out | refine below_set ?_ GE113.out) | exact HB.out)) hb); have n4_ := Aside0.mk (hbox); have n5_ := Aside0.mk ((by rw [hg]; exact (below_size (by repeat (first | (with_reducible first | exact HB.out | apply below_alloc | apply pw_below_drewN | apply below_drew1 | refine below_set ?_ GE111.out | refine below_set ?_ GE112.out | refine below_set ?_ GE113.out) | exact HB.out))) : w.heap.size ≤ gb114)); have n6_ := Aside0.mk ((by rw [hg]; exact (below_size (by repeat (first | (with_reducible first | exact HB.out | apply below_alloc | apply pw_below_drewN | apply below_drew1 | refine below_set ?_ GE111.out | refine below_set ?_ GE112.out | refine below_set ?_ GE113.out) | exact HB.out))) : w.heap.size ≤ gb114)); have n7_ := Aside0.mk ((by rw [hg]; exact Nat.ne_of_lt (blk_lt (g := gb111) (o := .cells #[.int .u64 a0_0, .int .u64 a0_1, .int .u64 a0_2, .int .u64 a0_3] 24 (0, 0)) (by (with_reducible repeat (first | refine blk_drewN ?_ _ | refine blk_drew ?_ | refine blk_alloc ?_ _)); exact BK111.out)) : gb111 ≠ gb114)); have n8_ := Aside0.mk ((by rw [hg]; exact Nat.ne_of_gt (blk_lt (g := gb111) (o := .cells #[.int .u64 a0_0, .int .u64 a0_1, .int .u64 a0_2, .int .u64 a0_3] 24 (0, 0)) (by (with_reducible repeat (first | refine blk_drewN ?_ _ | refine blk_drew ?_ | refine blk_alloc ?_ _)); exact BK111.out)) : gb114 ≠ gb111)); have n9_ := Aside0.mk ((by rw [hg]; exact Nat.ne_of_lt (blk_lt (g := gb112) (o := .cells #[.int .u64 a1_0, .int .u64 a1_1, .int .u64 a1_2, .int .u64 a1_3] 24 (0, 0)) (by (with_reducible repeat (first | refine blk_drewN ?_ _ | refine blk_drew ?_ | refine blk_alloc ?_ _)); exact BK112.out)) : gb112 ≠ gb114)); have n10_ := Aside0.mk ((by rw [hg]; exact Nat.ne_of_gt (blk_lt (g := gb112) (o := .cells #[.int .u64 a1_0, .int .u64 a1_1, .int .u64 a1_2, .int .u64 a1_3] 24 (0, 0)) (by (with_reducible repeat (first | refine blk_drewN ?_ _ | refine blk_drew ?_ | refine blk_alloc ?_ _)); exact BK112.out)) : gb114 ≠ gb112)); have n11_ := Aside0.mk ((by rw [hg]; exact Nat.ne_of_lt (blk_lt (g := gb113) (o := .cells #[.int .u64 0, .int .u64 0, .int .u64 0, .int .u64 0] 24 (0, 0)) (by (with_reducible repeat (first | refine blk_drewN ?_ _ | refine blk_drew ?_ | refine blk_alloc ?_ _)); exact BK113.out)) : gb113 ≠ gb114)); have n12_ := Aside0.mk ((by rw [hg]; exact Nat.ne_of_gt (blk_lt (g := gb113) (o := .cells #[.int .u64 0, .int .u64 0, .int .u64 0, .int .u64 0] 24 (0, 0)) (by (with_reducible repeat (first | refine blk_drewN ?_ _ | refine blk_drew ?_ | refine blk_alloc ?_ _)); exact BK113.out)) : gb114 ≠ gb113)); clear BK111; clear BK112; clear BK113; clear HB; have BK111 := n0_; have BK112 := n1_; have BK113 := n2_; have HB := n3_; have BK114 := n4_; have GW114 := n5_; have GE114 := n6_; have NB111_114 := n7_; have NB114_111 := n8_; have NB112_114 := n9_; have NB114_112 := n10_; have NB113_114 := n11_; have NB114_113 := n12_; clear n0_ n1_ n2_ n3_ n4_ n5_ n6_ n7_ n8_ n9_ n10_ n11_ n12_; clear hb hbox hg))
  go_loopg [6] k (fun kq v6 w' => ∃ (x6_1 : Int) (x115000_1 : Int) (x115001_1 : Int) (x115002_1 : Int) (x115003_1 : Int), v6 = .int .i64 x6_1 ∧ Aside0 (runnelref02_Or.l0 kq x6_1 a0_0 a0_1 a0_2 a0_3 a1_0 a1_1 a1_2 a1_3 x115000_1 x115001_1 x115002_1 x115003_1 = some (r1, r2, r3, r4)) ∧ Aside0 (kq ≤ k) ∧ Aside0 (w'.heap[gb111]? = some (.cells #[.int .u64 a0_0, .int .u64 a0_1, .int .u64 a0_2, .int .u64 a0_3] 24 (0, 0))) ∧ Aside0 (w'.heap[gb112]? = some (.cells #[.int .u64 a1_0, .int .u64 a1_1, .int .u64 a1_2, .int .u64 a1_3] 24 (0, 0))) ∧ Aside0 (w'.heap[gb113]? = some (.cells #[.int .u64 0, .int .u64 0, .int .u64 0, .int .u64 0] 24 (0, 0))) ∧ Aside0 (w'.heap[gb114]? = some (.cells #[.int .u64 x115000_1, .int .u64 x115001_1, .int .u64 x115002_1, .int .u64 x115003_1] 24 (0, 0))) ∧ Aside0 (Below w.heap.size w w'))
  case atStart => exact ⟨(0), (0), (0), (0), (0), (by first | rfl | (simp; done) | (simp [*]; done) | (exfalso; simp only [decide_eq_true_eq] at *; omega)), H', ⟨Nat.le_refl _⟩, ⟨by (with_reducible repeat (first | refine blk_drewN ?_ _ | refine blk_drew ?_ | refine blk_alloc ?_ _)); exact BK111.out⟩, ⟨by (with_reducible repeat (first | refine blk_drewN ?_ _ | refine blk_drew ?_ | refine blk_alloc ?_ _)); exact BK112.out⟩, ⟨by (with_reducible repeat (first | refine blk_drewN ?_ _ | refine blk_drew ?_ | refine blk_alloc ?_ _)); exact BK113.out⟩, ⟨by (with_reducible repeat (first | refine blk_drewN ?_ _ | refine blk_drew ?_ | refine blk_alloc ?_ _)); exact BK114.out⟩, ⟨by repeat (first | (with_reducible first | exact HB.out | apply below_alloc | apply pw_below_drewN | apply below_drew1 | refine below_set ?_ GE111.out | refine below_set ?_ GE112.out | refine below_set ?_ GE113.out | refine below_set ?_ GE114.out) | exact HB.out)⟩⟩
  case round =>
    clear H'
    try clear c1
    try clear p2
    obtain ⟨x6_1, x115000_1, x115001_1, x115002_1, x115003_1, rfl, HA, HK1, BK111, BK112, BK113, BK114, HB⟩ := hrel
    cases gk with
    | zero => exact absurd HA.out (by simp [runnelref02_Or.l0])
    | succ k1 =>
      have H := HA.out
      clear HA
      simp only [runnelref02_Or.l0] at H
      by_cases c7 : x6_1 < 256
      · rw [if_pos c7] at H
        have c7b0 : decide (x6_1 < 256) = true := decide_eq_true c7
        clear c7
        replace H := Option.bind_eq_some_iff.mp H
        obtain ⟨t115, A80, H⟩ := H
        replace H : (if t115 = true then ((runnelref02_With.f x115000_1 x115001_1 x115002_1 x115003_1 x6_1).bind fun bt116 => (runnelref02_Or.l0 k1 (wrap64 (x6_1 + 1)) a0_0 a0_1 a0_2 a0_3 a1_0 a1_1 a1_2 a1_3 bt116.1 bt116.2.1 bt116.2.2.1 bt116.2.2.2)) else ((runnelref02_Has.f a1_0 a1_1 a1_2 a1_3 x6_1).bind fun t120 => (if t120 = true then ((runnelref02_With.f x115000_1 x115001_1 x115002_1 x115003_1 x6_1).bind fun bt121 => (runnelref02_Or.l0 k1 (wrap64 (x6_1 + 1)) a0_0 a0_1 a0_2 a0_3 a1_0 a1_1 a1_2 a1_3 bt121.1 bt121.2.1 bt121.2.2.1 bt121.2.2.2)) else (runnelref02_Or.l0 k1 (wrap64 (x6_1 + 1)) a0_0 a0_1 a0_2 a0_3 a1_0 a1_1 a1_2 a1_3 x115000_1 x115001_1 x115002_1 x115003_1)))) = some (r1, r2, r3, r4) := H
        have A8 := Aside0.mk A80
        clear A80
        by_cases c9 : t115 = true
        · subst c9
          have H1 : ((runnelref02_With.f x115000_1 x115001_1 x115002_1 x115003_1 x6_1).bind fun bt116 => (runnelref02_Or.l0 k1 (wrap64 (x6_1 + 1)) a0_0 a0_1 a0_2 a0_3 a1_0 a1_1 a1_2 a1_3 bt116.1 bt116.2.1 bt116.2.2.1 bt116.2.2.2)) = some (r1, r2, r3, r4) := by rw [if_pos rfl] at H; exact H
          clear H
          have H := H1
          clear H1
          replace H := Option.bind_eq_some_iff.mp H
          obtain ⟨⟨t116, t117, t118, t119⟩, A100, H⟩ := H
          replace H : (runnelref02_Or.l0 k1 (wrap64 (x6_1 + 1)) a0_0 a0_1 a0_2 a0_3 a1_0 a1_1 a1_2 a1_3 t116 t117 t118 t119) = some (r1, r2, r3, r4) := H
          have A10 := Aside0.mk A100
          clear A100
          have H' := Aside0.mk H
          clear H
          have hnb11 := NB111_112.out
          have hnc11 := NB112_111.out
          have hnb12 := NB111_113.out
          have hnc12 := NB113_111.out
          have hnb13 := NB111_114.out
          have hnc13 := NB114_111.out
          have hcz14_0 : wr.cell? ⟨gb111, 0, none⟩ = some (.int .u64 a0_0) := (blk_cell BK111.out 0).trans rfl
          have hcz14_1 : wr.cell? ⟨gb111, 1, none⟩ = some (.int .u64 a0_1) := (blk_cell BK111.out 1).trans rfl
          have hcz14_2 : wr.cell? ⟨gb111, 2, none⟩ = some (.int .u64 a0_2) := (blk_cell BK111.out 2).trans rfl
          have hcz14_3 : wr.cell? ⟨gb111, 3, none⟩ = some (.int .u64 a0_3) := (blk_cell BK111.out 3).trans rfl
          have hfz14_0 := blk_frozen BK111.out 0
          have hfz14_1 := blk_frozen BK111.out 1
          have hfz14_2 := blk_frozen BK111.out 2
          have hfz14_3 := blk_frozen BK111.out 3
          go_wp2_with (first | ((with_reducible refine gate_callee (f := 31) rfl ?_); refine goesL_ (some 13) rfl rfl Tryd.func31 (by kernel_rfl) rfl #[.agg #[.int .u64 a0_0, .int .u64 a0_1, .int .u64 a0_2, .int .u64 a0_3], .int .i64 x6_1] rfl (by (try simp only [List.map_toArray, List.map_cons, List.map_nil]); first | done | rfl | (simp only [List.length_drop, List.length_take]; rfl)) ?_; (with_reducible refine (runnelref02_Has.calls a0_0 a0_1 a0_2 a0_3 x6_1 true _ A8.out).mono ?_); rintro e w15 ⟨rfl, hb⟩; refine ⟨_, rfl, ?_⟩; have n0_ := Aside0.mk (blk_below (g := gb111) (o := .cells #[.int .u64 a0_0, .int .u64 a0_1, .int .u64 a0_2, .int .u64 a0_3] 24 (0, 0)) (by (with_reducible repeat (first | refine blk_drewN ?_ _ | refine blk_drew ?_ | refine blk_alloc ?_ _)); exact BK111.out) hb); have n1_ := Aside0.mk (blk_below (g := gb112) (o := .cells #[.int .u64 a1_0, .int .u64 a1_1, .int .u64 a1_2, .int .u64 a1_3] 24 (0, 0)) (by (with_reducible repeat (first | refine blk_drewN ?_ _ | refine blk_drew ?_ | refine blk_alloc ?_ _)); exact BK112.out) hb); have n2_ := Aside0.mk (blk_below (g := gb113) (o := .cells #[.int .u64 0, .int .u64 0, .int .u64 0, .int .u64 0] 24 (0, 0)) (by (with_reducible repeat (first | refine blk_drewN ?_ _ | refine blk_drew ?_ | refine blk_alloc ?_ _)); exact BK113.out) hb); have n3_ := Aside0.mk (blk_below (g := gb114) (o := .cells #[.int .u64 x115000_1, .int .u64 x115001_1, .int .u64 x115002_1, .int .u64 x115003_1] 24 (0, 0)) (by (with_reducible repeat (first | refine blk_drewN ?_ _ | refine blk_drew ?_ | refine blk_alloc ?_ _)); exact BK114.out) hb); have n4_ := Aside0.mk (below_step (by repeat (first | (with_reducible first | exact HB.out | apply below_alloc | apply pw_below_drewN | apply below_drew1 | refine below_set ?_ GE111.out | refine below_set ?_ GE112.out | refine below_set ?_ GE113.out | refine below_set ?_ GE114.out) | exact HB.out)) hb); clear BK111; clear BK112; clear BK113; clear BK114; clear HB; have BK111 := n0_; have BK112 := n1_; have BK113 := n2_; have BK114 := n3_; have HB := n4_; clear n0_ n1_ n2_ n3_ n4_; (try clear hb); (try clear hb2); (try clear hk); (try clear hi); have hnb16 := NB114_112.out; have hnc16 := NB112_114.out; have hnb17 := NB114_113.out; have hnc17 := NB113_114.out; have hcz18_0 : w15.cell? ⟨gb114, 0, none⟩ = some (.int .u64 x115000_1) := (blk_cell BK114.out 0).trans rfl; have hcz18_1 : w15.cell? ⟨gb114, 1, none⟩ = some (.int .u64 x115001_1) := (blk_cell BK114.out 1).trans rfl; have hcz18_2 : w15.cell? ⟨gb114, 2, none⟩ = some (.int .u64 x115002_1) := (blk_cell BK114.out 2).trans rfl; have hcz18_3 : w15.cell? ⟨gb114, 3, none⟩ = some (.int .u64 x115003_1) := (blk_cell BK114.out 3).trans rfl; have hfz18_0 := blk_frozen BK114.out 0; have hfz18_1 := blk_frozen BK114.out 1; have hfz18_2 := blk_frozen BK114.out 2; have hfz18_3 := blk_frozen BK114.out 3) | ((with_reducible refine gate_callee (f := 32) rfl ?_); refine goesL_ (some 21) rfl rfl Tryd.func32 (by kernel_rfl) rfl #[.agg #[.int .u64 x115000_1, .int .u64 x115001_1, .int .u64 x115002_1, .int .u64 x115003_1], .int .i64 x6_1] rfl (by (try simp only [List.map_toArray, List.map_cons, List.map_nil]); first | done | rfl | (simp only [List.length_drop, List.length_take]; rfl)) ?_; (with_reducible refine (runnelref02_With.calls x115000_1 x115001_1 x115002_1 x115003_1 x6_1 t116 t117 t118 t119 _ A10.out).mono ?_); rintro e w19 ⟨rfl, hb⟩; refine ⟨_, rfl, ?_⟩; have n0_ := Aside0.mk (blk_below (g := gb111) (o := .cells #[.int .u64 a0_0, .int .u64 a0_1, .int .u64 a0_2, .int .u64 a0_3] 24 (0, 0)) (by (with_reducible repeat (first | refine blk_drewN ?_ _ | refine blk_drew ?_ | refine blk_alloc ?_ _)); exact BK111.out) hb); have n1_ := Aside0.mk (blk_below (g := gb112) (o := .cells #[.int .u64 a1_0, .int .u64 a1_1, .int .u64 a1_2, .int .u64 a1_3] 24 (0, 0)) (by (with_reducible repeat (first | refine blk_drewN ?_ _ | refine blk_drew ?_ | refine blk_alloc ?_ _)); exact BK112.out) hb); have n2_ := Aside0.mk (blk_below (g := gb113) (o := .cells #[.int .u64 0, .int .u64 0, .int .u64 0, .int .u64 0] 24 (0, 0)) (by (with_reducible repeat (first | refine blk_drewN ?_ _ | refine blk_drew ?_ | refine blk_alloc ?_ _)); exact BK113.out) hb); have n3_ := Aside0.mk (blk_below (g := gb114) (o := .cells #[.int .u64 x115000_1, .int .u64 x115001_1, .int .u64 x115002_1, .int .u64 x115003_1] 24 (0, 0)) (by (with_reducible repeat (first | refine blk_drewN ?_ _ | refine blk_drew ?_ | refine blk_alloc ?_ _)); exact BK114.out) hb); have n4_ := Aside0.mk (below_step (by repeat (first | (with_reducible first | exact HB.out | apply below_alloc | apply pw_below_drewN | apply below_drew1 | refine below_set ?_ GE111.out | refine below_set ?_ GE112.out | refine below_set ?_ GE113.out | refine below_set ?_ GE114.out) | exact HB.out)) hb); clear BK111; clear BK112; clear BK113; clear BK114; clear HB; have BK111 := n0_; have BK112 := n1_; have BK113 := n2_; have BK114 := n3_; have HB := n4_; clear n0_ n1_ n2_ n3_ n4_; (try clear hb); (try clear hb2); (try clear hk); (try clear hi); have hcz20_0 : w19.cell? ⟨gb114, 0, none⟩ = some (.int .u64 x115000_1) := (blk_cell BK114.out 0).trans rfl; have hcz20_1 : w19.cell? ⟨gb114, 1, none⟩ = some (.int .u64 x115001_1) := (blk_cell BK114.out 1).trans rfl; have hcz20_2 : w19.cell? ⟨gb114, 2, none⟩ = some (.int .u64 x115002_1) := (blk_cell BK114.out 2).trans rfl; have hcz20_3 : w19.cell? ⟨gb114, 3, none⟩ = some (.int .u64 x115003_1) := (blk_cell BK114.out 3).trans rfl; have hfz20_0 := blk_frozen BK114.out 0; have hfz20_1 := blk_frozen BK114.out 1; have hfz20_2 := blk_frozen BK114.out 2; have hfz20_3 := blk_frozen BK114.out 3))
          go_roundg k1
          case measure => have := HK1.out; omega
          case rel => exact ⟨(wrap64 (x6_1 + 1)), (t116), (t117), (t118), (t119), (by first | rfl | (simp; done) | (simp [*]; done) | (exfalso; simp only [decide_eq_true_eq] at *; omega)), H', ⟨by have := HK1.out; omega⟩, ⟨by (with_reducible repeat (first | refine blk_drewN ?_ _ | refine blk_drew ?_ | refine blk_alloc ?_ _)); refine blk_far ?_ NB111_114.out _; (with_reducible repeat (first | refine blk_drewN ?_ _ | refine blk_drew ?_ | refine blk_alloc ?_ _)); refine blk_far ?_ NB111_114.out _; (with_reducible repeat (first | refine blk_drewN ?_ _ | refine blk_drew ?_ | refine blk_alloc ?_ _)); refine blk_far ?_ NB111_114.out _; (with_reducible repeat (first | refine blk_drewN ?_ _ | refine blk_drew ?_ | refine blk_alloc ?_ _)); refine blk_far ?_ NB111_114.out _; (with_reducible repeat (first | refine blk_drewN ?_ _ | refine blk_drew ?_ | refine blk_alloc ?_ _)); exact BK111.out⟩, ⟨by (with_reducible repeat (first | refine blk_drewN ?_ _ | refine blk_drew ?_ | refine blk_alloc ?_ _)); refine blk_far ?_ NB112_114.out _; (with_reducible repeat (first | refine blk_drewN ?_ _ | refine blk_drew ?_ | refine blk_alloc ?_ _)); refine blk_far ?_ NB112_114.out _; (with_reducible repeat (first | refine blk_drewN ?_ _ | refine blk_drew ?_ | refine blk_alloc ?_ _)); refine blk_far ?_ NB112_114.out _; (with_reducible repeat (first | refine blk_drewN ?_ _ | refine blk_drew ?_ | refine blk_alloc ?_ _)); refine blk_far ?_ NB112_114.out _; (with_reducible repeat (first | refine blk_drewN ?_ _ | refine blk_drew ?_ | refine blk_alloc ?_ _)); exact BK112.out⟩, ⟨by (with_reducible repeat (first | refine blk_drewN ?_ _ | refine blk_drew ?_ | refine blk_alloc ?_ _)); refine blk_far ?_ NB113_114.out _; (with_reducible repeat (first | refine blk_drewN ?_ _ | refine blk_drew ?_ | refine blk_alloc ?_ _)); refine blk_far ?_ NB113_114.out _; (with_reducible repeat (first | refine blk_drewN ?_ _ | refine blk_drew ?_ | refine blk_alloc ?_ _)); refine blk_far ?_ NB113_114.out _; (with_reducible repeat (first | refine blk_drewN ?_ _ | refine blk_drew ?_ | refine blk_alloc ?_ _)); refine blk_far ?_ NB113_114.out _; (with_reducible repeat (first | refine blk_drewN ?_ _ | refine blk_drew ?_ | refine blk_alloc ?_ _)); exact BK113.out⟩, ⟨by (with_reducible repeat (first | refine blk_drewN ?_ _ | refine blk_drew ?_ | refine blk_alloc ?_ _)); refine blk_put (cs := #[.int .u64 t116, .int .u64 t117, .int .u64 t118, .int .u64 x115003_1]) ?_ 3 _ rfl; (with_reducible repeat (first | refine blk_drewN ?_ _ | refine blk_drew ?_ | refine blk_alloc ?_ _)); refine blk_put (cs := #[.int .u64 t116, .int .u64 t117, .int .u64 x115002_1, .int .u64 x115003_1]) ?_ 2 _ rfl; (with_reducible repeat (first | refine blk_drewN ?_ _ | refine blk_drew ?_ | refine blk_alloc ?_ _)); refine blk_put (cs := #[.int .u64 t116, .int .u64 x115001_1, .int .u64 x115002_1, .int .u64 x115003_1]) ?_ 1 _ rfl; (with_reducible repeat (first | refine blk_drewN ?_ _ | refine blk_drew ?_ | refine blk_alloc ?_ _)); refine blk_put (cs := #[.int .u64 x115000_1, .int .u64 x115001_1, .int .u64 x115002_1, .int .u64 x115003_1]) ?_ 0 _ rfl; (with_reducible repeat (first | refine blk_drewN ?_ _ | refine blk_drew ?_ | refine blk_alloc ?_ _)); exact BK114.out⟩, ⟨by repeat (first | (with_reducible first | exact HB.out | apply below_alloc | apply pw_below_drewN | apply below_drew1 | refine below_set ?_ GE111.out | refine below_set ?_ GE112.out | refine below_set ?_ GE113.out | refine below_set ?_ GE114.out) | exact HB.out)⟩⟩
        · replace c9 := Bool.eq_false_iff.mpr c9
          subst c9
          have H1 : ((runnelref02_Has.f a1_0 a1_1 a1_2 a1_3 x6_1).bind fun t120 => (if t120 = true then ((runnelref02_With.f x115000_1 x115001_1 x115002_1 x115003_1 x6_1).bind fun bt121 => (runnelref02_Or.l0 k1 (wrap64 (x6_1 + 1)) a0_0 a0_1 a0_2 a0_3 a1_0 a1_1 a1_2 a1_3 bt121.1 bt121.2.1 bt121.2.2.1 bt121.2.2.2)) else (runnelref02_Or.l0 k1 (wrap64 (x6_1 + 1)) a0_0 a0_1 a0_2 a0_3 a1_0 a1_1 a1_2 a1_3 x115000_1 x115001_1 x115002_1 x115003_1))) = some (r1, r2, r3, r4) := by rw [if_neg (show ¬ (false = true) by decide)] at H; exact H
          clear H
          have H := H1
          clear H1
          replace H := Option.bind_eq_some_iff.mp H
          obtain ⟨t120, A210, H⟩ := H
          replace H : (if t120 = true then ((runnelref02_With.f x115000_1 x115001_1 x115002_1 x115003_1 x6_1).bind fun bt121 => (runnelref02_Or.l0 k1 (wrap64 (x6_1 + 1)) a0_0 a0_1 a0_2 a0_3 a1_0 a1_1 a1_2 a1_3 bt121.1 bt121.2.1 bt121.2.2.1 bt121.2.2.2)) else (runnelref02_Or.l0 k1 (wrap64 (x6_1 + 1)) a0_0 a0_1 a0_2 a0_3 a1_0 a1_1 a1_2 a1_3 x115000_1 x115001_1 x115002_1 x115003_1)) = some (r1, r2, r3, r4) := H
          have A21 := Aside0.mk A210
          clear A210
          by_cases c22 : t120 = true
          · subst c22
            have H1 : ((runnelref02_With.f x115000_1 x115001_1 x115002_1 x115003_1 x6_1).bind fun bt121 => (runnelref02_Or.l0 k1 (wrap64 (x6_1 + 1)) a0_0 a0_1 a0_2 a0_3 a1_0 a1_1 a1_2 a1_3 bt121.1 bt121.2.1 bt121.2.2.1 bt121.2.2.2)) = some (r1, r2, r3, r4) := by rw [if_pos rfl] at H; exact H
            clear H
            have H := H1
            clear H1
            replace H := Option.bind_eq_some_iff.mp H
            obtain ⟨⟨t121, t122, t123, t124⟩, A230, H⟩ := H
            replace H : (runnelref02_Or.l0 k1 (wrap64 (x6_1 + 1)) a0_0 a0_1 a0_2 a0_3 a1_0 a1_1 a1_2 a1_3 t121 t122 t123 t124) = some (r1, r2, r3, r4) := H
            have A23 := Aside0.mk A230
            clear A230
            have H' := Aside0.mk H
            clear H
            have hnb24 := NB111_112.out
            have hnc24 := NB112_111.out
            have hnb25 := NB111_113.out
            have hnc25 := NB113_111.out
            have hnb26 := NB111_114.out
            have hnc26 := NB114_111.out
            have hcz27_0 : wr.cell? ⟨gb111, 0, none⟩ = some (.int .u64 a0_0) := (blk_cell BK111.out 0).trans rfl
            have hcz27_1 : wr.cell? ⟨gb111, 1, none⟩ = some (.int .u64 a0_1) := (blk_cell BK111.out 1).trans rfl
            have hcz27_2 : wr.cell? ⟨gb111, 2, none⟩ = some (.int .u64 a0_2) := (blk_cell BK111.out 2).trans rfl
            have hcz27_3 : wr.cell? ⟨gb111, 3, none⟩ = some (.int .u64 a0_3) := (blk_cell BK111.out 3).trans rfl
            have hfz27_0 := blk_frozen BK111.out 0
            have hfz27_1 := blk_frozen BK111.out 1
            have hfz27_2 := blk_frozen BK111.out 2
            have hfz27_3 := blk_frozen BK111.out 3
            go_wp2_with (first | ((with_reducible refine gate_callee (f := 31) rfl ?_); refine goesL_ (some 13) rfl rfl Tryd.func31 (by kernel_rfl) rfl #[.agg #[.int .u64 a0_0, .int .u64 a0_1, .int .u64 a0_2, .int .u64 a0_3], .int .i64 x6_1] rfl (by (try simp only [List.map_toArray, List.map_cons, List.map_nil]); first | done | rfl | (simp only [List.length_drop, List.length_take]; rfl)) ?_; (with_reducible refine (runnelref02_Has.calls a0_0 a0_1 a0_2 a0_3 x6_1 false _ A8.out).mono ?_); rintro e w28 ⟨rfl, hb⟩; refine ⟨_, rfl, ?_⟩; have n0_ := Aside0.mk (blk_below (g := gb111) (o := .cells #[.int .u64 a0_0, .int .u64 a0_1, .int .u64 a0_2, .int .u64 a0_3] 24 (0, 0)) (by (with_reducible repeat (first | refine blk_drewN ?_ _ | refine blk_drew ?_ | refine blk_alloc ?_ _)); exact BK111.out) hb); have n1_ := Aside0.mk (blk_below (g := gb112) (o := .cells #[.int .u64 a1_0, .int .u64 a1_1, .int .u64 a1_2, .int .u64 a1_3] 24 (0, 0)) (by (with_reducible repeat (first | refine blk_drewN ?_ _ | refine blk_drew ?_ | refine blk_alloc ?_ _)); exact BK112.out) hb); have n2_ := Aside0.mk (blk_below (g := gb113) (o := .cells #[.int .u64 0, .int .u64 0, .int .u64 0, .int .u64 0] 24 (0, 0)) (by (with_reducible repeat (first | refine blk_drewN ?_ _ | refine blk_drew ?_ | refine blk_alloc ?_ _)); exact BK113.out) hb); have n3_ := Aside0.mk (blk_below (g := gb114) (o := .cells #[.int .u64 x115000_1, .int .u64 x115001_1, .int .u64 x115002_1, .int .u64 x115003_1] 24 (0, 0)) (by (with_reducible repeat (first | refine blk_drewN ?_ _ | refine blk_drew ?_ | refine blk_alloc ?_ _)); exact BK114.out) hb); have n4_ := Aside0.mk (below_step (by repeat (first | (with_reducible first | exact HB.out | apply below_alloc | apply pw_below_drewN | apply below_drew1 | refine below_set ?_ GE111.out | refine below_set ?_ GE112.out | refine below_set ?_ GE113.out | refine below_set ?_ GE114.out) | exact HB.out)) hb); clear BK111; clear BK112; clear BK113; clear BK114; clear HB; have BK111 := n0_; have BK112 := n1_; have BK113 := n2_; have BK114 := n3_; have HB := n4_; clear n0_ n1_ n2_ n3_ n4_; (try clear hb); (try clear hb2); (try clear hk); (try clear hi); have hnb29 := NB112_113.out; have hnc29 := NB113_112.out; have hnb30 := NB112_114.out; have hnc30 := NB114_112.out; have hcz31_0 : w28.cell? ⟨gb112, 0, none⟩ = some (.int .u64 a1_0) := (blk_cell BK112.out 0).trans rfl; have hcz31_1 : w28.cell? ⟨gb112, 1, none⟩ = some (.int .u64 a1_1) := (blk_cell BK112.out 1).trans rfl; have hcz31_2 : w28.cell? ⟨gb112, 2, none⟩ = some (.int .u64 a1_2) := (blk_cell BK112.out 2).trans rfl; have hcz31_3 : w28.cell? ⟨gb112, 3, none⟩ = some (.int .u64 a1_3) := (blk_cell BK112.out 3).trans rfl; have hfz31_0 := blk_frozen BK112.out 0; have hfz31_1 := blk_frozen BK112.out 1; have hfz31_2 := blk_frozen BK112.out 2; have hfz31_3 := blk_frozen BK112.out 3) | (go_at_call 31; (with_reducible refine (runnelref02_Has.calls a1_0 a1_1 a1_2 a1_3 x6_1 true _ A21.out).mono ?_); rintro e w32 ⟨rfl, hb⟩; have n0_ := Aside0.mk (blk_below (g := gb111) (o := .cells #[.int .u64 a0_0, .int .u64 a0_1, .int .u64 a0_2, .int .u64 a0_3] 24 (0, 0)) (by (with_reducible repeat (first | refine blk_drewN ?_ _ | refine blk_drew ?_ | refine blk_alloc ?_ _)); exact BK111.out) hb); have n1_ := Aside0.mk (blk_below (g := gb112) (o := .cells #[.int .u64 a1_0, .int .u64 a1_1, .int .u64 a1_2, .int .u64 a1_3] 24 (0, 0)) (by (with_reducible repeat (first | refine blk_drewN ?_ _ | refine blk_drew ?_ | refine blk_alloc ?_ _)); exact BK112.out) hb); have n2_ := Aside0.mk (blk_below (g := gb113) (o := .cells #[.int .u64 0, .int .u64 0, .int .u64 0, .int .u64 0] 24 (0, 0)) (by (with_reducible repeat (first | refine blk_drewN ?_ _ | refine blk_drew ?_ | refine blk_alloc ?_ _)); exact BK113.out) hb); have n3_ := Aside0.mk (blk_below (g := gb114) (o := .cells #[.int .u64 x115000_1, .int .u64 x115001_1, .int .u64 x115002_1, .int .u64 x115003_1] 24 (0, 0)) (by (with_reducible repeat (first | refine blk_drewN ?_ _ | refine blk_drew ?_ | refine blk_alloc ?_ _)); exact BK114.out) hb); have n4_ := Aside0.mk (below_step (by repeat (first | (with_reducible first | exact HB.out | apply below_alloc | apply pw_below_drewN | apply below_drew1 | refine below_set ?_ GE111.out | refine below_set ?_ GE112.out | refine below_set ?_ GE113.out | refine below_set ?_ GE114.out) | exact HB.out)) hb); clear BK111; clear BK112; clear BK113; clear BK114; clear HB; have BK111 := n0_; have BK112 := n1_; have BK113 := n2_; have BK114 := n3_; have HB := n4_; clear n0_ n1_ n2_ n3_ n4_; (try clear hb); (try clear hb2); (try clear hk); (try clear hi); have hnb33 := NB114_113.out; have hnc33 := NB113_114.out; have hcz34_0 : w32.cell? ⟨gb114, 0, none⟩ = some (.int .u64 x115000_1) := (blk_cell BK114.out 0).trans rfl; have hcz34_1 : w32.cell? ⟨gb114, 1, none⟩ = some (.int .u64 x115001_1) := (blk_cell BK114.out 1).trans rfl; have hcz34_2 : w32.cell? ⟨gb114, 2, none⟩ = some (.int .u64 x115002_1) := (blk_cell BK114.out 2).trans rfl; have hcz34_3 : w32.cell? ⟨gb114, 3, none⟩ = some (.int .u64 x115003_1) := (blk_cell BK114.out 3).trans rfl; have hfz34_0 := blk_frozen BK114.out 0; have hfz34_1 := blk_frozen BK114.out 1; have hfz34_2 := blk_frozen BK114.out 2; have hfz34_3 := blk_frozen BK114.out 3) | ((with_reducible refine gate_callee (f := 32) rfl ?_); refine goesL_ (some 21) rfl rfl Tryd.func32 (by kernel_rfl) rfl #[.agg #[.int .u64 x115000_1, .int .u64 x115001_1, .int .u64 x115002_1, .int .u64 x115003_1], .int .i64 x6_1] rfl (by (try simp only [List.map_toArray, List.map_cons, List.map_nil]); first | done | rfl | (simp only [List.length_drop, List.length_take]; rfl)) ?_; (with_reducible refine (runnelref02_With.calls x115000_1 x115001_1 x115002_1 x115003_1 x6_1 t121 t122 t123 t124 _ A23.out).mono ?_); rintro e w35 ⟨rfl, hb⟩; refine ⟨_, rfl, ?_⟩; have n0_ := Aside0.mk (blk_below (g := gb111) (o := .cells #[.int .u64 a0_0, .int .u64 a0_1, .int .u64 a0_2, .int .u64 a0_3] 24 (0, 0)) (by (with_reducible repeat (first | refine blk_drewN ?_ _ | refine blk_drew ?_ | refine blk_alloc ?_ _)); exact BK111.out) hb); have n1_ := Aside0.mk (blk_below (g := gb112) (o := .cells #[.int .u64 a1_0, .int .u64 a1_1, .int .u64 a1_2, .int .u64 a1_3] 24 (0, 0)) (by (with_reducible repeat (first | refine blk_drewN ?_ _ | refine blk_drew ?_ | refine blk_alloc ?_ _)); exact BK112.out) hb); have n2_ := Aside0.mk (blk_below (g := gb113) (o := .cells #[.int .u64 0, .int .u64 0, .int .u64 0, .int .u64 0] 24 (0, 0)) (by (with_reducible repeat (first | refine blk_drewN ?_ _ | refine blk_drew ?_ | refine blk_alloc ?_ _)); exact BK113.out) hb); have n3_ := Aside0.mk (blk_below (g := gb114) (o := .cells #[.int .u64 x115000_1, .int .u64 x115001_1, .int .u64 x115002_1, .int .u64 x115003_1] 24 (0, 0)) (by (with_reducible repeat (first | refine blk_drewN ?_ _ | refine blk_drew ?_ | refine blk_alloc ?_ _)); exact BK114.out) hb); have n4_ := Aside0.mk (below_step (by repeat (first | (with_reducible first | exact HB.out | apply below_alloc | apply pw_below_drewN | apply below_drew1 | refine below_set ?_ GE111.out | refine below_set ?_ GE112.out | refine below_set ?_ GE113.out | refine below_set ?_ GE114.out) | exact HB.out)) hb); clear BK111; clear BK112; clear BK113; clear BK114; clear HB; have BK111 := n0_; have BK112 := n1_; have BK113 := n2_; have BK114 := n3_; have HB := n4_; clear n0_ n1_ n2_ n3_ n4_; (try clear hb); (try clear hb2); (try clear hk); (try clear hi); have hcz36_0 : w35.cell? ⟨gb114, 0, none⟩ = some (.int .u64 x115000_1) := (blk_cell BK114.out 0).trans rfl; have hcz36_1 : w35.cell? ⟨gb114, 1, none⟩ = some (.int .u64 x115001_1) := (blk_cell BK114.out 1).trans rfl; have hcz36_2 : w35.cell? ⟨gb114, 2, none⟩ = some (.int .u64 x115002_1) := (blk_cell BK114.out 2).trans rfl; have hcz36_3 : w35.cell? ⟨gb114, 3, none⟩ = some (.int .u64 x115003_1) := (blk_cell BK114.out 3).trans rfl; have hfz36_0 := blk_frozen BK114.out 0; have hfz36_1 := blk_frozen BK114.out 1; have hfz36_2 := blk_frozen BK114.out 2; have hfz36_3 := blk_frozen BK114.out 3))
            go_roundg k1
            case measure => have := HK1.out; omega
            case rel => exact ⟨(wrap64 (x6_1 + 1)), (t121), (t122), (t123), (t124), (by first | rfl | (simp; done) | (simp [*]; done) | (exfalso; simp only [decide_eq_true_eq] at *; omega)), H', ⟨by have := HK1.out; omega⟩, ⟨by (with_reducible repeat (first | refine blk_drewN ?_ _ | refine blk_drew ?_ | refine blk_alloc ?_ _)); refine blk_far ?_ NB111_114.out _; (with_reducible repeat (first | refine blk_drewN ?_ _ | refine blk_drew ?_ | refine blk_alloc ?_ _)); refine blk_far ?_ NB111_114.out _; (with_reducible repeat (first | refine blk_drewN ?_ _ | refine blk_drew ?_ | refine blk_alloc ?_ _)); refine blk_far ?_ NB111_114.out _; (with_reducible repeat (first | refine blk_drewN ?_ _ | refine blk_drew ?_ | refine blk_alloc ?_ _)); refine blk_far ?_ NB111_114.out _; (with_reducible repeat (first | refine blk_drewN ?_ _ | refine blk_drew ?_ | refine blk_alloc ?_ _)); exact BK111.out⟩, ⟨by (with_reducible repeat (first | refine blk_drewN ?_ _ | refine blk_drew ?_ | refine blk_alloc ?_ _)); refine blk_far ?_ NB112_114.out _; (with_reducible repeat (first | refine blk_drewN ?_ _ | refine blk_drew ?_ | refine blk_alloc ?_ _)); refine blk_far ?_ NB112_114.out _; (with_reducible repeat (first | refine blk_drewN ?_ _ | refine blk_drew ?_ | refine blk_alloc ?_ _)); refine blk_far ?_ NB112_114.out _; (with_reducible repeat (first | refine blk_drewN ?_ _ | refine blk_drew ?_ | refine blk_alloc ?_ _)); refine blk_far ?_ NB112_114.out _; (with_reducible repeat (first | refine blk_drewN ?_ _ | refine blk_drew ?_ | refine blk_alloc ?_ _)); exact BK112.out⟩, ⟨by (with_reducible repeat (first | refine blk_drewN ?_ _ | refine blk_drew ?_ | refine blk_alloc ?_ _)); refine blk_far ?_ NB113_114.out _; (with_reducible repeat (first | refine blk_drewN ?_ _ | refine blk_drew ?_ | refine blk_alloc ?_ _)); refine blk_far ?_ NB113_114.out _; (with_reducible repeat (first | refine blk_drewN ?_ _ | refine blk_drew ?_ | refine blk_alloc ?_ _)); refine blk_far ?_ NB113_114.out _; (with_reducible repeat (first | refine blk_drewN ?_ _ | refine blk_drew ?_ | refine blk_alloc ?_ _)); refine blk_far ?_ NB113_114.out _; (with_reducible repeat (first | refine blk_drewN ?_ _ | refine blk_drew ?_ | refine blk_alloc ?_ _)); exact BK113.out⟩, ⟨by (with_reducible repeat (first | refine blk_drewN ?_ _ | refine blk_drew ?_ | refine blk_alloc ?_ _)); refine blk_put (cs := #[.int .u64 t121, .int .u64 t122, .int .u64 t123, .int .u64 x115003_1]) ?_ 3 _ rfl; (with_reducible repeat (first | refine blk_drewN ?_ _ | refine blk_drew ?_ | refine blk_alloc ?_ _)); refine blk_put (cs := #[.int .u64 t121, .int .u64 t122, .int .u64 x115002_1, .int .u64 x115003_1]) ?_ 2 _ rfl; (with_reducible repeat (first | refine blk_drewN ?_ _ | refine blk_drew ?_ | refine blk_alloc ?_ _)); refine blk_put (cs := #[.int .u64 t121, .int .u64 x115001_1, .int .u64 x115002_1, .int .u64 x115003_1]) ?_ 1 _ rfl; (with_reducible repeat (first | refine blk_drewN ?_ _ | refine blk_drew ?_ | refine blk_alloc ?_ _)); refine blk_put (cs := #[.int .u64 x115000_1, .int .u64 x115001_1, .int .u64 x115002_1, .int .u64 x115003_1]) ?_ 0 _ rfl; (with_reducible repeat (first | refine blk_drewN ?_ _ | refine blk_drew ?_ | refine blk_alloc ?_ _)); exact BK114.out⟩, ⟨by repeat (first | (with_reducible first | exact HB.out | apply below_alloc | apply pw_below_drewN | apply below_drew1 | refine below_set ?_ GE111.out | refine below_set ?_ GE112.out | refine below_set ?_ GE113.out | refine below_set ?_ GE114.out) | exact HB.out)⟩⟩
          · replace c22 := Bool.eq_false_iff.mpr c22
            subst c22
            have H1 : (runnelref02_Or.l0 k1 (wrap64 (x6_1 + 1)) a0_0 a0_1 a0_2 a0_3 a1_0 a1_1 a1_2 a1_3 x115000_1 x115001_1 x115002_1 x115003_1) = some (r1, r2, r3, r4) := by rw [if_neg (show ¬ (false = true) by decide)] at H; exact H
            clear H
            have H := H1
            clear H1
            have H' := Aside0.mk H
            clear H
            have hnb37 := NB111_112.out
            have hnc37 := NB112_111.out
            have hnb38 := NB111_113.out
            have hnc38 := NB113_111.out
            have hnb39 := NB111_114.out
            have hnc39 := NB114_111.out
            have hcz40_0 : wr.cell? ⟨gb111, 0, none⟩ = some (.int .u64 a0_0) := (blk_cell BK111.out 0).trans rfl
            have hcz40_1 : wr.cell? ⟨gb111, 1, none⟩ = some (.int .u64 a0_1) := (blk_cell BK111.out 1).trans rfl
            have hcz40_2 : wr.cell? ⟨gb111, 2, none⟩ = some (.int .u64 a0_2) := (blk_cell BK111.out 2).trans rfl
            have hcz40_3 : wr.cell? ⟨gb111, 3, none⟩ = some (.int .u64 a0_3) := (blk_cell BK111.out 3).trans rfl
            have hfz40_0 := blk_frozen BK111.out 0
            have hfz40_1 := blk_frozen BK111.out 1
            have hfz40_2 := blk_frozen BK111.out 2
            have hfz40_3 := blk_frozen BK111.out 3
            go_wp2_with (first | ((with_reducible refine gate_callee (f := 31) rfl ?_); refine goesL_ (some 13) rfl rfl Tryd.func31 (by kernel_rfl) rfl #[.agg #[.int .u64 a0_0, .int .u64 a0_1, .int .u64 a0_2, .int .u64 a0_3], .int .i64 x6_1] rfl (by (try simp only [List.map_toArray, List.map_cons, List.map_nil]); first | done | rfl | (simp only [List.length_drop, List.length_take]; rfl)) ?_; (with_reducible refine (runnelref02_Has.calls a0_0 a0_1 a0_2 a0_3 x6_1 false _ A8.out).mono ?_); rintro e w41 ⟨rfl, hb⟩; refine ⟨_, rfl, ?_⟩; have n0_ := Aside0.mk (blk_below (g := gb111) (o := .cells #[.int .u64 a0_0, .int .u64 a0_1, .int .u64 a0_2, .int .u64 a0_3] 24 (0, 0)) (by (with_reducible repeat (first | refine blk_drewN ?_ _ | refine blk_drew ?_ | refine blk_alloc ?_ _)); exact BK111.out) hb); have n1_ := Aside0.mk (blk_below (g := gb112) (o := .cells #[.int .u64 a1_0, .int .u64 a1_1, .int .u64 a1_2, .int .u64 a1_3] 24 (0, 0)) (by (with_reducible repeat (first | refine blk_drewN ?_ _ | refine blk_drew ?_ | refine blk_alloc ?_ _)); exact BK112.out) hb); have n2_ := Aside0.mk (blk_below (g := gb113) (o := .cells #[.int .u64 0, .int .u64 0, .int .u64 0, .int .u64 0] 24 (0, 0)) (by (with_reducible repeat (first | refine blk_drewN ?_ _ | refine blk_drew ?_ | refine blk_alloc ?_ _)); exact BK113.out) hb); have n3_ := Aside0.mk (blk_below (g := gb114) (o := .cells #[.int .u64 x115000_1, .int .u64 x115001_1, .int .u64 x115002_1, .int .u64 x115003_1] 24 (0, 0)) (by (with_reducible repeat (first | refine blk_drewN ?_ _ | refine blk_drew ?_ | refine blk_alloc ?_ _)); exact BK114.out) hb); have n4_ := Aside0.mk (below_step (by repeat (first | (with_reducible first | exact HB.out | apply below_alloc | apply pw_below_drewN | apply below_drew1 | refine below_set ?_ GE111.out | refine below_set ?_ GE112.out | refine below_set ?_ GE113.out | refine below_set ?_ GE114.out) | exact HB.out)) hb); clear BK111; clear BK112; clear BK113; clear BK114; clear HB; have BK111 := n0_; have BK112 := n1_; have BK113 := n2_; have BK114 := n3_; have HB := n4_; clear n0_ n1_ n2_ n3_ n4_; (try clear hb); (try clear hb2); (try clear hk); (try clear hi); have hnb42 := NB112_113.out; have hnc42 := NB113_112.out; have hnb43 := NB112_114.out; have hnc43 := NB114_112.out; have hcz44_0 : w41.cell? ⟨gb112, 0, none⟩ = some (.int .u64 a1_0) := (blk_cell BK112.out 0).trans rfl; have hcz44_1 : w41.cell? ⟨gb112, 1, none⟩ = some (.int .u64 a1_1) := (blk_cell BK112.out 1).trans rfl; have hcz44_2 : w41.cell? ⟨gb112, 2, none⟩ = some (.int .u64 a1_2) := (blk_cell BK112.out 2).trans rfl; have hcz44_3 : w41.cell? ⟨gb112, 3, none⟩ = some (.int .u64 a1_3) := (blk_cell BK112.out 3).trans rfl; have hfz44_0 := blk_frozen BK112.out 0; have hfz44_1 := blk_frozen BK112.out 1; have hfz44_2 := blk_frozen BK112.out 2; have hfz44_3 := blk_frozen BK112.out 3) | (go_at_call 31; (with_reducible refine (runnelref02_Has.calls a1_0 a1_1 a1_2 a1_3 x6_1 false _ A21.out).mono ?_); rintro e w45 ⟨rfl, hb⟩; have n0_ := Aside0.mk (blk_below (g := gb111) (o := .cells #[.int .u64 a0_0, .int .u64 a0_1, .int .u64 a0_2, .int .u64 a0_3] 24 (0, 0)) (by (with_reducible repeat (first | refine blk_drewN ?_ _ | refine blk_drew ?_ | refine blk_alloc ?_ _)); exact BK111.out) hb); have n1_ := Aside0.mk (blk_below (g := gb112) (o := .cells #[.int .u64 a1_0, .int .u64 a1_1, .int .u64 a1_2, .int .u64 a1_3] 24 (0, 0)) (by (with_reducible repeat (first | refine blk_drewN ?_ _ | refine blk_drew ?_ | refine blk_alloc ?_ _)); exact BK112.out) hb); have n2_ := Aside0.mk (blk_below (g := gb113) (o := .cells #[.int .u64 0, .int .u64 0, .int .u64 0, .int .u64 0] 24 (0, 0)) (by (with_reducible repeat (first | refine blk_drewN ?_ _ | refine blk_drew ?_ | refine blk_alloc ?_ _)); exact BK113.out) hb); have n3_ := Aside0.mk (blk_below (g := gb114) (o := .cells #[.int .u64 x115000_1, .int .u64 x115001_1, .int .u64 x115002_1, .int .u64 x115003_1] 24 (0, 0)) (by (with_reducible repeat (first | refine blk_drewN ?_ _ | refine blk_drew ?_ | refine blk_alloc ?_ _)); exact BK114.out) hb); have n4_ := Aside0.mk (below_step (by repeat (first | (with_reducible first | exact HB.out | apply below_alloc | apply pw_below_drewN | apply below_drew1 | refine below_set ?_ GE111.out | refine below_set ?_ GE112.out | refine below_set ?_ GE113.out | refine below_set ?_ GE114.out) | exact HB.out)) hb); clear BK111; clear BK112; clear BK113; clear BK114; clear HB; have BK111 := n0_; have BK112 := n1_; have BK113 := n2_; have BK114 := n3_; have HB := n4_; clear n0_ n1_ n2_ n3_ n4_; (try clear hb); (try clear hb2); (try clear hk); (try clear hi)))
            go_roundg k1
            case measure => have := HK1.out; omega
            case rel => exact ⟨(wrap64 (x6_1 + 1)), (x115000_1), (x115001_1), (x115002_1), (x115003_1), (by first | rfl | (simp; done) | (simp [*]; done) | (exfalso; simp only [decide_eq_true_eq] at *; omega)), H', ⟨by have := HK1.out; omega⟩, ⟨by (with_reducible repeat (first | refine blk_drewN ?_ _ | refine blk_drew ?_ | refine blk_alloc ?_ _)); exact BK111.out⟩, ⟨by (with_reducible repeat (first | refine blk_drewN ?_ _ | refine blk_drew ?_ | refine blk_alloc ?_ _)); exact BK112.out⟩, ⟨by (with_reducible repeat (first | refine blk_drewN ?_ _ | refine blk_drew ?_ | refine blk_alloc ?_ _)); exact BK113.out⟩, ⟨by (with_reducible repeat (first | refine blk_drewN ?_ _ | refine blk_drew ?_ | refine blk_alloc ?_ _)); exact BK114.out⟩, ⟨by repeat (first | (with_reducible first | exact HB.out | apply below_alloc | apply pw_below_drewN | apply below_drew1 | refine below_set ?_ GE111.out | refine below_set ?_ GE112.out | refine below_set ?_ GE113.out | refine below_set ?_ GE114.out) | exact HB.out)⟩⟩
      · rw [if_neg c7] at H
        have c7b0 : decide (x6_1 < 256) = false := decide_eq_false c7
        clear c7
        simp only [Option.some.injEq, Prod.mk.injEq] at H
        obtain ⟨rfl, rfl, rfl, rfl⟩ := H
        have hnb46 := NB114_111.out
        have hnc46 := NB111_114.out
        have hnb47 := NB114_112.out
        have hnc47 := NB112_114.out
        have hnb48 := NB114_113.out
        have hnc48 := NB113_114.out
        have hcz49_0 : wr.cell? ⟨gb114, 0, none⟩ = some (.int .u64 x115000_1) := (blk_cell BK114.out 0).trans rfl
        have hcz49_1 : wr.cell? ⟨gb114, 1, none⟩ = some (.int .u64 x115001_1) := (blk_cell BK114.out 1).trans rfl
        have hcz49_2 : wr.cell? ⟨gb114, 2, none⟩ = some (.int .u64 x115002_1) := (blk_cell BK114.out 2).trans rfl
        have hcz49_3 : wr.cell? ⟨gb114, 3, none⟩ = some (.int .u64 x115003_1) := (blk_cell BK114.out 3).trans rfl
        have hfz49_0 := blk_frozen BK114.out 0
        have hfz49_1 := blk_frozen BK114.out 1
        have hfz49_2 := blk_frozen BK114.out 2
        have hfz49_3 := blk_frozen BK114.out 3
        have hnb50 := NB113_111.out
        have hnc50 := NB111_113.out
        have hnb51 := NB113_112.out
        have hnc51 := NB112_113.out
        have hcz52_0 : wr.cell? ⟨gb113, 0, none⟩ = some (.int .u64 0) := (blk_cell BK113.out 0).trans rfl
        have hcz52_1 : wr.cell? ⟨gb113, 1, none⟩ = some (.int .u64 0) := (blk_cell BK113.out 1).trans rfl
        have hcz52_2 : wr.cell? ⟨gb113, 2, none⟩ = some (.int .u64 0) := (blk_cell BK113.out 2).trans rfl
        have hcz52_3 : wr.cell? ⟨gb113, 3, none⟩ = some (.int .u64 0) := (blk_cell BK113.out 3).trans rfl
        have hfz52_0 := blk_frozen BK113.out 0
        have hfz52_1 := blk_frozen BK113.out 1
        have hfz52_2 := blk_frozen BK113.out 2
        have hfz52_3 := blk_frozen BK113.out 3
        go_wp2
        refine bodyPost_ret (results_cell_row rfl _ _ gb113 24 #[.int .u64 x115000_1, .int .u64 x115001_1, .int .u64 x115002_1, .int .u64 x115003_1] (0, 0) _ rfl (by (with_reducible repeat (first | refine blk_drewN ?_ _ | refine blk_drew ?_ | refine blk_alloc ?_ _)); refine blk_put (cs := #[.int .u64 x115000_1, .int .u64 x115001_1, .int .u64 x115002_1, .int .u64 0]) ?_ 3 _ rfl; (with_reducible repeat (first | refine blk_drewN ?_ _ | refine blk_drew ?_ | refine blk_alloc ?_ _)); refine blk_put (cs := #[.int .u64 x115000_1, .int .u64 x115001_1, .int .u64 0, .int .u64 0]) ?_ 2 _ rfl; (with_reducible repeat (first | refine blk_drewN ?_ _ | refine blk_drew ?_ | refine blk_alloc ?_ _)); refine blk_put (cs := #[.int .u64 x115000_1, .int .u64 0, .int .u64 0, .int .u64 0]) ?_ 1 _ rfl; (with_reducible repeat (first | refine blk_drewN ?_ _ | refine blk_drew ?_ | refine blk_alloc ?_ _)); refine blk_put (cs := #[.int .u64 0, .int .u64 0, .int .u64 0, .int .u64 0]) ?_ 0 _ rfl; (with_reducible repeat (first | refine blk_drewN ?_ _ | refine blk_drew ?_ | refine blk_alloc ?_ _)); exact BK113.out) Tryd.underlying24 rfl (by kernel_rfl)) rfl ?_
        exact ⟨by first | rfl | (simp only [wrap_wrap]; done) | (simp only [wrap_wrap]; rfl) | (simp [errW_none, errW_some] <;> rfl) | (simp [*, errW_none, errW_some] <;> rfl), by repeat (first | (with_reducible first | exact HB.out | apply below_alloc | apply pw_below_drewN | apply below_drew1 | refine below_set ?_ GE111.out | refine below_set ?_ GE112.out | refine below_set ?_ GE113.out | refine below_set ?_ GE114.out) | exact HB.out)⟩
end Go.Proofs.YtcmipoicnonaeaaDoor.F
end
section
namespace Go.Proofs.YtcmipoicnonaeaaDoor.F
open Go.RowKit Go.Proofs.YtcmipoicnonaeaaDoorW.PrintWords Go.Proofs.YtcmipoicnonaeaaDoorW.PrintLast Go.Proofs.YtcmipoicnonaeaaDoorW.PrintMore
attribute [local go_sem] max2_int min2_int max_two min_two max_three min_three max_four min_four
set_option linter.unusedVariables false
set_option linter.unusedSimpArgs false
def runnelref02_DocSpan.l0 : Nat → Int → Int → Int → Int → Int → Int → Int → Option (Int × Int × Int × Int × Int)
  | 0, _, _, _, _, _, _, _ => none
  | k + 1, x0, x1, x7, x133000, x133001, x133002, x133003 => if x7 < 256 then (if x7 ≥ (wrap64 (x0)) then (if x7 ≤ (wrap64 (x1)) then ((runnelref02_With.f x133000 x133001 x133002 x133003 x7).bind fun bt133 => (runnelref02_DocSpan.l0 k x0 x1 (wrap64 (x7 + 1)) bt133.1 bt133.2.1 bt133.2.2.1 bt133.2.2.2)) else (runnelref02_DocSpan.l0 k x0 x1 (wrap64 (x7 + 1)) x133000 x133001 x133002 x133003)) else (runnelref02_DocSpan.l0 k x0 x1 (wrap64 (x7 + 1)) x133000 x133001 x133002 x133003)) else (some (x133000, x133001, x133002, x133003, 0))
def runnelref02_DocSpan.f (k : Nat) (a0 : Int) (a1 : Int) : Option (Int × Int × Int × Int × Int) := if a1 < a0 then (some (0, 0, 0, 0, 7)) else (runnelref02_DocSpan.l0 k a0 a1 0 0 0 0 0)
theorem runnelref02_DocSpan.mono_l : ∀ k, (∀ y0 y1 y2 y3 y4 y5 y6, LeO (runnelref02_DocSpan.l0 k y0 y1 y2 y3 y4 y5 y6) (runnelref02_DocSpan.l0 (k + 1) y0 y1 y2 y3 y4 y5 y6))
  | 0 => fun _ _ _ _ _ _ _ r h => by simp [runnelref02_DocSpan.l0] at h
  | k + 1 => by
    have ih0 := runnelref02_DocSpan.mono_l k
    · intro y0 y1 y2 y3 y4 y5 y6
      unfold runnelref02_DocSpan.l0
      repeat' first
      | (with_reducible exact ih0 _ _ _ _ _ _ _)
      | (with_reducible exact LeO.refl _)
      | (with_reducible exact LeO.none _)
      | (with_reducible refine LeO.ite ?_ ?_)
      | (with_reducible refine LeO.bind ?_ (fun _ => ?_))
      | exact ih0 _ _ _ _ _ _ _
      | exact LeO.none _
      | refine LeO.ite ?_ ?_
      | refine LeO.bind ?_ (fun _ => ?_)
theorem runnelref02_DocSpan.mono : ∀ a0 a1 k, LeO (runnelref02_DocSpan.f k a0 a1) (runnelref02_DocSpan.f (k + 1) a0 a1) := by
  intro a0 a1 k
  have ih0 := runnelref02_DocSpan.mono_l k
  unfold runnelref02_DocSpan.f
  repeat' first
      | (with_reducible exact ih0 _ _ _ _ _ _ _)
      | (with_reducible exact LeO.refl _)
      | (with_reducible exact LeO.none _)
      | (with_reducible refine LeO.ite ?_ ?_)
      | (with_reducible refine LeO.bind ?_ (fun _ => ?_))
      | exact ih0 _ _ _ _ _ _ _
      | exact LeO.none _
      | refine LeO.ite ?_ ?_
      | refine LeO.bind ?_ (fun _ => ?_)
set_option maxHeartbeats 8000000 in
set_option maxRecDepth 100000 in
theorem runnelref02_DocSpan.calls (k : Nat) (a0 : Int) (a1 : Int) (r1 : Int) (r2 : Int) (r3 : Int) (r4 : Int) (r5 : Int) (w : World) (h : runnelref02_DocSpan.f k a0 a1 = some (r1, r2, r3, r4, r5)) :
    Calls Tryd.prog 46 #[.int .u8 a0, .int .u8 a1] w fun e w' => e = .returned (.tuple #[.agg #[.int .u64 r1, .int .u64 r2, .int .u64 r3, .int .u64 r4], .int .i64 r5]) ∧ Below w.heap.size w w' := by
  have hu24 := Tryd.underlying24
  have HB := Aside0.mk (Below.refl w.heap.size w)
  have H : (if a1 < a0 then (some (0, 0, 0, 0, 7)) else (runnelref02_DocSpan.l0 k a0 a1 0 0 0 0 0)) = some (r1, r2, r3, r4, r5) := h
  clear h
  by_cases c3 : a1 < a0
  · rw [if_pos c3] at H
    have c3b0 : decide (a1 < a0) = true := decide_eq_true c3
    clear c3
    simp only [Option.some.injEq, Prod.mk.injEq] at H
    obtain ⟨rfl, rfl, rfl, rfl, rfl⟩ := H
    go_enter Tryd.func46, Tryd.ntmps46
    go_wp2_with (first | ((with_reducible refine gate_dst (N := 4) rfl ?_); refine box_event ?hg (N := 4) ?hd (cs := #[.int .u64 0, .int .u64 0, .int .u64 0, .int .u64 0]) (t := 24) ?hr ?_; (case hd => rfl); (case hg => rfl); (case hr => first | (go_simp; done) | (go_simp; rfl)); intro gb131 hg w4 hbox hb; have n0_ := Aside0.mk (below_step (by repeat (first | (with_reducible first | exact HB.out | apply below_alloc | apply pw_below_drewN | apply below_drew1) | exact HB.out)) hb); have n1_ := Aside0.mk (hbox); have n2_ := Aside0.mk ((by rw [hg]; exact (below_size (by repeat (first | (with_reducible first | exact HB.out | apply below_alloc | apply pw_below_drewN | apply below_drew1) | exact HB.out))) : w.heap.size ≤ gb131)); have n3_ := Aside0.mk ((by rw [hg]; exact (below_size (by repeat (first | (with_reducible first | exact HB.out | apply below_alloc | apply pw_below_drewN | apply below_drew1) | exact HB.out))) : w.heap.size ≤ gb131)); clear HB; have HB := n0_; have BK131 := n1_; have GW131 := n2_; have GE131 := n3_; clear n0_ n1_ n2_ n3_; clear hb hbox hg) | ((with_reducible refine gate_dst (N := 6) rfl ?_); refine box_event ?hg (N := 6) ?hd (cs := #[.int .u64 0, .int .u64 0, .int .u64 0, .int .u64 0]) (t := 24) ?hr ?_; (case hd => rfl); (case hg => rfl); (case hr => first | (go_simp; done) | (go_simp; rfl)); intro gb132 hg w5 hbox hb; have n0_ := Aside0.mk (blk_below (g := gb131) (o := .cells #[.int .u64 0, .int .u64 0, .int .u64 0, .int .u64 0] 24 (0, 0)) (by (with_reducible repeat (first | refine blk_drewN ?_ _ | refine blk_drew ?_ | refine blk_alloc ?_ _)); exact BK131.out) hb); have n1_ := Aside0.mk (below_step (by repeat (first | (with_reducible first | exact HB.out | apply below_alloc | apply pw_below_drewN | apply below_drew1 | refine below_set ?_ GE131.out) | exact HB.out)) hb); have n2_ := Aside0.mk (hbox); have n3_ := Aside0.mk ((by rw [hg]; exact (below_size (by repeat (first | (with_reducible first | exact HB.out | apply below_alloc | apply pw_below_drewN | apply below_drew1 | refine below_set ?_ GE131.out) | exact HB.out))) : w.heap.size ≤ gb132)); have n4_ := Aside0.mk ((by rw [hg]; exact (below_size (by repeat (first | (with_reducible first | exact HB.out | apply below_alloc | apply pw_below_drewN | apply below_drew1 | refine below_set ?_ GE131.out) | exact HB.out))) : w.heap.size ≤ gb132)); have n5_ := Aside0.mk ((by rw [hg]; exact Nat.ne_of_lt (blk_lt (g := gb131) (o := .cells #[.int .u64 0, .int .u64 0, .int .u64 0, .int .u64 0] 24 (0, 0)) (by (with_reducible repeat (first | refine blk_drewN ?_ _ | refine blk_drew ?_ | refine blk_alloc ?_ _)); exact BK131.out)) : gb131 ≠ gb132)); have n6_ := Aside0.mk ((by rw [hg]; exact Nat.ne_of_gt (blk_lt (g := gb131) (o := .cells #[.int .u64 0, .int .u64 0, .int .u64 0, .int .u64 0] 24 (0, 0)) (by (with_reducible repeat (first | refine blk_drewN ?_ _ | refine blk_drew ?_ | refine blk_alloc ?_ _)); exact BK131.out)) : gb132 ≠ gb131)); clear BK131; clear HB; have BK131 := n0_; have HB := n1_; have BK132 := n2_; have GW132 := n3_; have GE132 := n4_; have NB131_132 := n5_; have NB132_131 := n6_; clear n0_ n1_ n2_ n3_ n4_ n5_ n6_; clear hb hbox hg; have hnb6 := NB132_131.out; have hnc6 := NB131_132.out; have hcz7_0 : w5.cell? ⟨gb132, 0, none⟩ = some (.int .u64 0) := (blk_cell BK132.out 0).trans rfl; have hcz7_1 : w5.cell? ⟨gb132, 1, none⟩ = some (.int .u64 0) := (blk_cell BK132.out 1).trans rfl; have hcz7_2 : w5.cell? ⟨gb132, 2, none⟩ = some (.int .u64 0) := (blk_cell BK132.out 2).trans rfl; have hcz7_3 : w5.cell? ⟨gb132, 3, none⟩ = some (.int .u64 0) := (blk_cell BK132.out 3).trans rfl; have hfz7_0 := blk_frozen BK132.out 0; have hfz7_1 := blk_frozen BK132.out 1; have hfz7_2 := blk_frozen BK132.out 2; have hfz7_3 := blk_frozen BK132.out 3; have hcz8_0 : w5.cell? ⟨gb131, 0, none⟩ = some (.int .u64 0) := (blk_cell BK131.out 0).trans rfl; have hcz8_1 : w5.cell? ⟨gb131, 1, none⟩ = some (.int .u64 0) := (blk_cell BK131.out 1).trans rfl; have hcz8_2 : w5.cell? ⟨gb131, 2, none⟩ = some (.int .u64 0) := (blk_cell BK131.out 2).trans rfl; have hcz8_3 : w5.cell? ⟨gb131, 3, none⟩ = some (.int .u64 0) := (blk_cell BK131.out 3).trans rfl; have hfz8_0 := blk_frozen BK131.out 0; have hfz8_1 := blk_frozen BK131.out 1; have hfz8_2 := blk_frozen BK131.out 2; have hfz8_3 := blk_frozen BK131.out 3))
    refine bodyPost_ret (results_ct rfl _ _ gb131 24 #[.int .u64 0, .int .u64 0, .int .u64 0, .int .u64 0] (0, 0) _ rfl (by (with_reducible repeat (first | refine blk_drewN ?_ _ | refine blk_drew ?_ | refine blk_alloc ?_ _)); refine blk_put (cs := #[.int .u64 0, .int .u64 0, .int .u64 0, .int .u64 0]) ?_ 3 _ rfl; (with_reducible repeat (first | refine blk_drewN ?_ _ | refine blk_drew ?_ | refine blk_alloc ?_ _)); refine blk_put (cs := #[.int .u64 0, .int .u64 0, .int .u64 0, .int .u64 0]) ?_ 2 _ rfl; (with_reducible repeat (first | refine blk_drewN ?_ _ | refine blk_drew ?_ | refine blk_alloc ?_ _)); refine blk_put (cs := #[.int .u64 0, .int .u64 0, .int .u64 0, .int .u64 0]) ?_ 1 _ rfl; (with_reducible repeat (first | refine blk_drewN ?_ _ | refine blk_drew ?_ | refine blk_alloc ?_ _)); refine blk_put (cs := #[.int .u64 0, .int .u64 0, .int .u64 0, .int .u64 0]) ?_ 0 _ rfl; (with_reducible repeat (first | refine blk_drewN ?_ _ | refine blk_drew ?_ | refine blk_alloc ?_ _)); exact BK131.out) Tryd.underlying24 rfl (by kernel_rfl)) rfl ?_
    exact ⟨by first | rfl | (simp only [wrap_wrap]; done) | (simp only [wrap_wrap]; rfl) | (simp [errW_none, errW_some] <;> rfl) | (simp [*, errW_none, errW_some] <;> rfl), by repeat (first | (with_reducible first | exact HB.out | apply below_alloc | apply pw_below_drewN | apply below_drew1 | refine below_set ?_ GE131.out | refine below_set ?_ GE132.out) | exact HB.out)⟩
  · rw [if_neg c3] at H
    have c3b0 : decide (a1 < a0) = false := decide_eq_false c3
    clear c3
    have H' := Aside0.mk H
    clear H
    go_enter Tryd.func46, Tryd.ntmps46
    go_wp2_with (first | ((with_reducible refine gate_dst (N := 4) rfl ?_); refine box_event ?hg (N := 4) ?hd (cs := #[.int .u64 0, .int .u64 0, .int .u64 0, .int .u64 0]) (t := 24) ?hr ?_; (case hd => rfl); (case hg => rfl); (case hr => first | (go_simp; done) | (go_simp; rfl)); intro gb131 hg w9 hbox hb; have n0_ := Aside0.mk (below_step (by repeat (first | (with_reducible first | exact HB.out | apply below_alloc | apply pw_below_drewN | apply below_drew1) | exact HB.out)) hb); have n1_ := Aside0.mk (hbox); have n2_ := Aside0.mk ((by rw [hg]; exact (below_size (by repeat (first | (with_reducible first | exact HB.out | apply below_alloc | apply pw_below_drewN | apply below_drew1) | exact HB.out))) : w.heap.size ≤ gb131)); have n3_ := Aside0.mk ((by rw [hg]; exact (below_size (by repeat (first | (with_reducible first | exact HB.out | apply below_alloc | apply pw_below_drewN | apply below_drew1) | exact HB.out))) : w.heap.size ≤ gb131)); clear HB; have HB := n0_; have BK131 := n1_; have GW131 := n2_; have GE131 := n3_; clear n0_ n1_ n2_ n3_; clear hb hbox hg) | ((with_reducible refine gate_dst (N := 6) rfl ?_); refine box_event ?hg (N := 6) ?hd (cs := #[.int .u64 0, .int .u64 0, .int .u64 0, .int .u64 0]) (t := 24) ?hr ?_; (case hd => rfl); (case hg => rfl); (case hr => first | (go_simp; done) | (go_simp; rfl)); intro gb132 hg w10 hbox hb; have n0_ := Aside0.mk (blk_below (g := gb131) (o := .cells #[.int .u64 0, .int .u64 0, .int .u64 0, .int .u64 0] 24 (0, 0)) (by (with_reducible repeat (first | refine blk_drewN ?_ _ | refine blk_drew ?_ | refine blk_alloc ?_ _)); exact BK131.out) hb); have n1_ := Aside0.mk (below_step (by repeat (first | (with_reducible first | exact HB.out | apply below_alloc | apply pw_below_drewN | apply below_drew1 | refine below_set ?_ GE131.out) | exact HB.out)) hb); have n2_ := Aside0.mk (hbox); have n3_ := Aside0.mk ((by rw [hg]; exact (below_size (by repeat (first | (with_reducible first | exact HB.out | apply below_alloc | apply pw_below_drewN | apply below_drew1 | refine below_set ?_ GE131.out) | exact HB.out))) : w.heap.size ≤ gb132)); have n4_ := Aside0.mk ((by rw [hg]; exact (below_size (by repeat (first | (with_reducible first | exact HB.out | apply below_alloc | apply pw_below_drewN | apply below_drew1 | refine below_set ?_ GE131.out) | exact HB.out))) : w.heap.size ≤ gb132)); have n5_ := Aside0.mk ((by rw [hg]; exact Nat.ne_of_lt (blk_lt (g := gb131) (o := .cells #[.int .u64 0, .int .u64 0, .int .u64 0, .int .u64 0] 24 (0, 0)) (by (with_reducible repeat (first | refine blk_drewN ?_ _ | refine blk_drew ?_ | refine blk_alloc ?_ _)); exact BK131.out)) : gb131 ≠ gb132)); have n6_ := Aside0.mk ((by rw [hg]; exact Nat.ne_of_gt (blk_lt (g := gb131) (o := .cells #[.int .u64 0, .int .u64 0, .int .u64 0, .int .u64 0] 24 (0, 0)) (by (with_reducible repeat (first | refine blk_drewN ?_ _ | refine blk_drew ?_ | refine blk_alloc ?_ _)); exact BK131.out)) : gb132 ≠ gb131)); clear BK131; clear HB; have BK131 := n0_; have HB := n1_; have BK132 := n2_; have GW132 := n3_; have GE132 := n4_; have NB131_132 := n5_; have NB132_131 := n6_; clear n0_ n1_ n2_ n3_ n4_ n5_ n6_; clear hb hbox hg))
    go_loopg [7] k (fun kq v7 w' => ∃ (x7_1 : Int) (x133000_1 : Int) (x133001_1 : Int) (x133002_1 : Int) (x133003_1 : Int), v7 = .int .i64 x7_1 ∧ Aside0 (runnelref02_DocSpan.l0 kq a0 a1 x7_1 x133000_1 x133001_1 x133002_1 x133003_1 = some (r1, r2, r3, r4, r5)) ∧ Aside0 (kq ≤ k) ∧ Aside0 (w'.heap[gb131]? = some (.cells #[.int .u64 0, .int .u64 0, .int .u64 0, .int .u64 0] 24 (0, 0))) ∧ Aside0 (w'.heap[gb132]? = some (.cells #[.int .u64 x133000_1, .int .u64 x133001_1, .int .u64 x133002_1, .int .u64 x133003_1] 24 (0, 0))) ∧ Aside0 (Below w.heap.size w w'))
    case atStart => exact ⟨(0), (0), (0), (0), (0), (by first | rfl | (simp; done) | (simp [*]; done) | (exfalso; simp only [decide_eq_true_eq] at *; omega)), H', ⟨Nat.le_refl _⟩, ⟨by (with_reducible repeat (first | refine blk_drewN ?_ _ | refine blk_drew ?_ | refine blk_alloc ?_ _)); exact BK131.out⟩, ⟨by (with_reducible repeat (first | refine blk_drewN ?_ _ | refine blk_drew ?_ | refine blk_alloc ?_ _)); exact BK132.out⟩, ⟨by repeat (first | (with_reducible first | exact HB.out | apply below_alloc | apply pw_below_drewN | apply below_drew1 | refine below_set ?_ GE131.out | refine below_set ?_ GE132.out) | exact HB.out)⟩⟩
    case round =>
      clear H'
      try clear p2
      try clear c3
      try clear c3b0
      try clear c4
      try clear c6
      try clear hcz7_0
      try clear hcz7_1
      try clear hcz7_2
      try clear hcz7_3
      try clear hcz8_0
      try clear hcz8_1
      try clear hcz8_2
      try clear hcz8_3
      try clear hfz7_0
      try clear hfz7_1
      try clear hfz7_2
      try clear hfz7_3
      try clear hfz8_0
      try clear hfz8_1
      try clear hfz8_2
      try clear hfz8_3
      obtain ⟨x7_1, x133000_1, x133001_1, x133002_1, x133003_1, rfl, HA, HK1, BK131, BK132, HB⟩ := hrel
      cases gk with
      | zero => exact absurd HA.out (by simp [runnelref02_DocSpan.l0])
      | succ k1 =>
        have H := HA.out
        clear HA
        simp only [runnelref02_DocSpan.l0] at H
        by_cases c11 : x7_1 < 256
        · rw [if_pos c11] at H
          have c11b0 : decide (x7_1 < 256) = true := decide_eq_true c11
          clear c11
          by_cases c12 : x7_1 ≥ (wrap64 (a0))
          · rw [if_pos c12] at H
            have c12b0 : decide ((wrap64 (a0)) ≤ x7_1) = true := decide_eq_true c12
            clear c12
            by_cases c13 : x7_1 ≤ (wrap64 (a1))
            · rw [if_pos c13] at H
              have c13b0 : decide (x7_1 ≤ (wrap64 (a1))) = true := decide_eq_true c13
              clear c13
              replace H := Option.bind_eq_some_iff.mp H
              obtain ⟨⟨t133, t134, t135, t136⟩, A140, H⟩ := H
              replace H : (runnelref02_DocSpan.l0 k1 a0 a1 (wrap64 (x7_1 + 1)) t133 t134 t135 t136) = some (r1, r2, r3, r4, r5) := H
              have A14 := Aside0.mk A140
              clear A140
              have H' := Aside0.mk H
              clear H
              have hnb15 := NB132_131.out
              have hnc15 := NB131_132.out
              have hcz16_0 : wr.cell? ⟨gb132, 0, none⟩ = some (.int .u64 x133000_1) := (blk_cell BK132.out 0).trans rfl
              have hcz16_1 : wr.cell? ⟨gb132, 1, none⟩ = some (.int .u64 x133001_1) := (blk_cell BK132.out 1).trans rfl
              have hcz16_2 : wr.cell? ⟨gb132, 2, none⟩ = some (.int .u64 x133002_1) := (blk_cell BK132.out 2).trans rfl
              have hcz16_3 : wr.cell? ⟨gb132, 3, none⟩ = some (.int .u64 x133003_1) := (blk_cell BK132.out 3).trans rfl
              have hfz16_0 := blk_frozen BK132.out 0
              have hfz16_1 := blk_frozen BK132.out 1
              have hfz16_2 := blk_frozen BK132.out 2
              have hfz16_3 := blk_frozen BK132.out 3
              go_wp2_with (first | ((with_reducible refine gate_callee (f := 32) rfl ?_); refine goesL_ (some 28) rfl rfl Tryd.func32 (by kernel_rfl) rfl #[.agg #[.int .u64 x133000_1, .int .u64 x133001_1, .int .u64 x133002_1, .int .u64 x133003_1], .int .i64 x7_1] rfl (by (try simp only [List.map_toArray, List.map_cons, List.map_nil]); first | done | rfl | (simp only [List.length_drop, List.length_take]; rfl)) ?_; (with_reducible refine (runnelref02_With.calls x133000_1 x133001_1 x133002_1 x133003_1 x7_1 t133 t134 t135 t136 _ A14.out).mono ?_); rintro e w17 ⟨rfl, hb⟩; refine ⟨_, rfl, ?_⟩; have n0_ := Aside0.mk (blk_below (g := gb131) (o := .cells #[.int .u64 0, .int .u64 0, .int .u64 0, .int .u64 0] 24 (0, 0)) (by (with_reducible repeat (first | refine blk_drewN ?_ _ | refine blk_drew ?_ | refine blk_alloc ?_ _)); exact BK131.out) hb); have n1_ := Aside0.mk (blk_below (g := gb132) (o := .cells #[.int .u64 x133000_1, .int .u64 x133001_1, .int .u64 x133002_1, .int .u64 x133003_1] 24 (0, 0)) (by (with_reducible repeat (first | refine blk_drewN ?_ _ | refine blk_drew ?_ | refine blk_alloc ?_ _)); exact BK132.out) hb); have n2_ := Aside0.mk (below_step (by repeat (first | (with_reducible first | exact HB.out | apply below_alloc | apply pw_below_drewN | apply below_drew1 | refine below_set ?_ GE131.out | refine below_set ?_ GE132.out) | exact HB.out)) hb); clear BK131; clear BK132; clear HB; have BK131 := n0_; have BK132 := n1_; have HB := n2_; clear n0_ n1_ n2_; (try clear hb); (try clear hb2); (try clear hk); (try clear hi); have hcz18_0 : w17.cell? ⟨gb132, 0, none⟩ = some (.int .u64 x133000_1) := (blk_cell BK132.out 0).trans rfl; have hcz18_1 : w17.cell? ⟨gb132, 1, none⟩ = some (.int .u64 x133001_1) := (blk_cell BK132.out 1).trans rfl; have hcz18_2 : w17.cell? ⟨gb132, 2, none⟩ = some (.int .u64 x133002_1) := (blk_cell BK132.out 2).trans rfl; have hcz18_3 : w17.cell? ⟨gb132, 3, none⟩ = some (.int .u64 x133003_1) := (blk_cell BK132.out 3).trans rfl; have hfz18_0 := blk_frozen BK132.out 0; have hfz18_1 := blk_frozen BK132.out 1; have hfz18_2 := blk_frozen BK132.out 2; have hfz18_3 := blk_frozen BK132.out 3))
              go_roundg k1
              case measure => have := HK1.out; omega
              case rel => exact ⟨(wrap64 (x7_1 + 1)), (t133), (t134), (t135), (t136), (by first | rfl | (simp; done) | (simp [*]; done) | (exfalso; simp only [decide_eq_true_eq] at *; omega)), H', ⟨by have := HK1.out; omega⟩, ⟨by (with_reducible repeat (first | refine blk_drewN ?_ _ | refine blk_drew ?_ | refine blk_alloc ?_ _)); refine blk_far ?_ NB131_132.out _; (with_reducible repeat (first | refine blk_drewN ?_ _ | refine blk_drew ?_ | refine blk_alloc ?_ _)); refine blk_far ?_ NB131_132.out _; (with_reducible repeat (first | refine blk_drewN ?_ _ | refine blk_drew ?_ | refine blk_alloc ?_ _)); refine blk_far ?_ NB131_132.out _; (with_reducible repeat (first | refine blk_drewN ?_ _ | refine blk_drew ?_ | refine blk_alloc ?_ _)); refine blk_far ?_ NB131_132.out _; (with_reducible repeat (first | refine blk_drewN ?_ _ | refine blk_drew ?_ | refine blk_alloc ?_ _)); exact BK131.out⟩, ⟨by (with_reducible repeat (first | refine blk_drewN ?_ _ | refine blk_drew ?_ | refine blk_alloc ?_ _)); refine blk_put (cs := #[.int .u64 t133, .int .u64 t134, .int .u64 t135, .int .u64 x133003_1]) ?_ 3 _ rfl; (with_reducible repeat (first | refine blk_drewN ?_ _ | refine blk_drew ?_ | refine blk_alloc ?_ _)); refine blk_put (cs := #[.int .u64 t133, .int .u64 t134, .int .u64 x133002_1, .int .u64 x133003_1]) ?_ 2 _ rfl; (with_reducible repeat (first | refine blk_drewN ?_ _ | refine blk_drew ?_ | refine blk_alloc ?_ _)); refine blk_put (cs := #[.int .u64 t133, .int .u64 x133001_1, .int .u64 x133002_1, .int .u64 x133003_1]) ?_ 1 _ rfl; (with_reducible repeat (first | refine blk_drewN ?_ _ | refine blk_drew ?_ | refine blk_alloc ?_ _)); refine blk_put (cs := #[.int .u64 x133000_1, .int .u64 x133001_1, .int .u64 x133002_1, .int .u64 x133003_1]) ?_ 0 _ rfl; (with_reducible repeat (first | refine blk_drewN ?_ _ | refine blk_drew ?_ | refine blk_alloc ?_ _)); exact BK132.out⟩, ⟨by repeat (first | (with_reducible first | exact HB.out | apply below_alloc | apply pw_below_drewN | apply below_drew1 | refine below_set ?_ GE131.out | refine below_set ?_ GE132.out) | exact HB.out)⟩⟩
            · rw [if_neg c13] at H
              have c13b0 : decide (x7_1 ≤ (wrap64 (a1))) = false := decide_eq_false c13
              clear c13
              have H' := Aside0.mk H
              clear H
              go_wp2
              go_roundg k1
              case measure => have := HK1.out; omega
              case rel => exact ⟨(wrap64 (x7_1 + 1)), (x133000_1), (x133001_1), (x133002_1), (x133003_1), (by first | rfl | (simp; done) | (simp [*]; done) | (exfalso; simp only [decide_eq_true_eq] at *; omega)), H', ⟨by have := HK1.out; omega⟩, ⟨by (with_reducible repeat (first | refine blk_drewN ?_ _ | refine blk_drew ?_ | refine blk_alloc ?_ _)); exact BK131.out⟩, ⟨by (with_reducible repeat (first | refine blk_drewN ?_ _ | refine blk_drew ?_ | refine blk_alloc ?_ _)); exact BK132.out⟩, ⟨by repeat (first | (with_reducible first | exact HB.out | apply below_alloc | apply pw_below_drewN | apply below_drew1 | refine below_set ?_ GE131.out | refine below_set ?_ GE132.out) | exact HB.out)⟩⟩
          · rw [if_neg c12] at H
            have c12b0 : decide ((wrap64 (a0)) ≤ x7_1) = false := decide_eq_false c12
            clear c12
            have H' := Aside0.mk H
            clear H
            go_wp2
            go_roundg k1
            case measure => have := HK1.out; omega
            case rel => exact ⟨(wrap64 (x7_1 + 1)), (x133000_1), (x133001_1), (x133002_1), (x133003_1), (by first | rfl | (simp; done) | (simp [*]; done) | (exfalso; simp only [decide_eq_true_eq] at *; omega)), H', ⟨by have := HK1.out; omega⟩, ⟨by (with_reducible repeat (first | refine blk_drewN ?_ _ | refine blk_drew ?_ | refine blk_alloc ?_ _)); exact BK131.out⟩, ⟨by (with_reducible repeat (first | refine blk_drewN ?_ _ | refine blk_drew ?_ | refine blk_alloc ?_ _)); exact BK132.out⟩, ⟨by repeat (first | (with_reducible first | exact HB.out | apply below_alloc | apply pw_below_drewN | apply below_drew1 | refine below_set ?_ GE131.out | refine below_set ?_ GE132.out) | exact HB.out)⟩⟩
        · rw [if_neg c11] at H
          have c11b0 : decide (x7_1 < 256) = false := decide_eq_false c11
          clear c11
          simp only [Option.some.injEq, Prod.mk.injEq] at H
          obtain ⟨rfl, rfl, rfl, rfl, rfl⟩ := H
          have hnb19 := NB132_131.out
          have hnc19 := NB131_132.out
          have hcz20_0 : wr.cell? ⟨gb132, 0, none⟩ = some (.int .u64 x133000_1) := (blk_cell BK132.out 0).trans rfl
          have hcz20_1 : wr.cell? ⟨gb132, 1, none⟩ = some (.int .u64 x133001_1) := (blk_cell BK132.out 1).trans rfl
          have hcz20_2 : wr.cell? ⟨gb132, 2, none⟩ = some (.int .u64 x133002_1) := (blk_cell BK132.out 2).trans rfl
          have hcz20_3 : wr.cell? ⟨gb132, 3, none⟩ = some (.int .u64 x133003_1) := (blk_cell BK132.out 3).trans rfl
          have hfz20_0 := blk_frozen BK132.out 0
          have hfz20_1 := blk_frozen BK132.out 1
          have hfz20_2 := blk_frozen BK132.out 2
          have hfz20_3 := blk_frozen BK132.out 3
          have hcz21_0 : wr.cell? ⟨gb131, 0, none⟩ = some (.int .u64 0) := (blk_cell BK131.out 0).trans rfl
          have hcz21_1 : wr.cell? ⟨gb131, 1, none⟩ = some (.int .u64 0) := (blk_cell BK131.out 1).trans rfl
          have hcz21_2 : wr.cell? ⟨gb131, 2, none⟩ = some (.int .u64 0) := (blk_cell BK131.out 2).trans rfl
          have hcz21_3 : wr.cell? ⟨gb131, 3, none⟩ = some (.int .u64 0) := (blk_cell BK131.out 3).trans rfl
          have hfz21_0 := blk_frozen BK131.out 0
          have hfz21_1 := blk_frozen BK131.out 1
          have hfz21_2 := blk_frozen BK131.out 2
          have hfz21_3 := blk_frozen BK131.out 3
          go_wp2
          refine bodyPost_ret (results_ct rfl _ _ gb131 24 #[.int .u64 x133000_1, .int .u64 x133001_1, .int .u64 x133002_1, .int .u64 x133003_1] (0, 0) _ rfl (by (with_reducible repeat (first | refine blk_drewN ?_ _ | refine blk_drew ?_ | refine blk_alloc ?_ _)); refine blk_put (cs := #[.int .u64 x133000_1, .int .u64 x133001_1, .int .u64 x133002_1, .int .u64 0]) ?_ 3 _ rfl; (with_reducible repeat (first | refine blk_drewN ?_ _ | refine blk_drew ?_ | refine blk_alloc ?_ _)); refine blk_put (cs := #[.int .u64 x133000_1, .int .u64 x133001_1, .int .u64 0, .int .u64 0]) ?_ 2 _ rfl; (with_reducible repeat (first | refine blk_drewN ?_ _ | refine blk_drew ?_ | refine blk_alloc ?_ _)); refine blk_put (cs := #[.int .u64 x133000_1, .int .u64 0, .int .u64 0, .int .u64 0]) ?_ 1 _ rfl; (with_reducible repeat (first | refine blk_drewN ?_ _ | refine blk_drew ?_ | refine blk_alloc ?_ _)); refine blk_put (cs := #[.int .u64 0, .int .u64 0, .int .u64 0, .int .u64 0]) ?_ 0 _ rfl; (with_reducible repeat (first | refine blk_drewN ?_ _ | refine blk_drew ?_ | refine blk_alloc ?_ _)); exact BK131.out) Tryd.underlying24 rfl (by kernel_rfl)) rfl ?_
          exact ⟨by first | rfl | (simp only [wrap_wrap]; done) | (simp only [wrap_wrap]; rfl) | (simp [errW_none, errW_some] <;> rfl) | (simp [*, errW_none, errW_some] <;> rfl), by repeat (first | (with_reducible first | exact HB.out | apply below_alloc | apply pw_below_drewN | apply below_drew1 | refine below_set ?_ GE131.out | refine below_set ?_ GE132.out) | exact HB.out)⟩
end Go.Proofs.YtcmipoicnonaeaaDoor.F
end
section
namespace Go.Proofs.YtcmipoicnonaeaaDoor.F
open Go.RowKit Go.Proofs.YtcmipoicnonaeaaDoorW.PrintWords
set_option linter.unusedVariables false
set_option linter.unusedSimpArgs false
theorem Has_eq {s : S4} (h : okS s) {b : Nat} (hb : b < 256) : runnelref02_Has.f s.1 s.2.1 s.2.2.1 s.2.2.2 (b : Int) = some (has s b) := by
  unfold runnelref02_Has.f
  rw [if_pos (by omega), hasBit_eq h hb]
theorem wrap_nat {n : Nat} (h : n ≤ 9223372036854775807) : wrap64 (n : Int) = (n : Int) := wrap_id (by omega) (by omega)
theorem wrap_succ {n : Nat} (h : n < 9223372036854775807) : wrap64 ((n : Int) + 1) = ((n + 1 : Nat) : Int) := by rw [wrap_id (by omega) (by omega)]; omega
theorem mem_range0 {c : Nat} (hc : c < 256) (p : Nat → Bool) : decide (c ∈ (List.range' 0 256).filter p) = p c := by
  have : c ∈ (List.range' 0 256).filter p ↔ p c = true := by
    rw [List.mem_filter, List.mem_range'_1]
    exact ⟨fun h => h.2, fun h => ⟨by omega, h⟩⟩
  rw [Bool.eq_iff_iff, decide_eq_true_iff]
  exact this
theorem filt_lt (p : Nat → Bool) : ∀ b ∈ (List.range' 0 256).filter p, b < 256 := by
  intro b hb
  have := (List.mem_filter.1 hb).1
  rw [List.mem_range'_1] at this
  omega
theorem Members_loop {s : S4} (hs : okS s) : ∀ (n : Nat) (x : Nat) (l : List Int), x + n = 256 → l.length ≤ x → ∀ j, runnelref02_Members.l0 (n + 1 + j) l (x : Int) s.1 s.2.1 s.2.2.1 s.2.2.2 = some (l ++ ((List.range' x n).filter (has s)).map (fun (b : Nat) => (b : Int)))
  | 0, x, l, h, _, j => by
    rw [show 0 + 1 + j = j + 1 by omega, runnelref02_Members.l0, if_neg (by omega)]
    simp
  | n + 1, x, l, h, hl, j => by
    rw [show n + 1 + 1 + j = (n + 1 + j) + 1 by omega, runnelref02_Members.l0, if_pos (by omega), Has_eq hs (by omega), Option.bind_some, wrap_succ (by omega), List.range'_succ]
    cases hh : has s x with
    | true =>
      rw [if_pos rfl, if_pos (by omega), Members_loop hs n (x + 1) _ (by omega) (by simp; omega) j, List.filter_cons_of_pos hh]
      simp
      omega
    | false =>
      rw [if_neg (by decide), Members_loop hs n (x + 1) _ (by omega) (by omega) j, List.filter_cons_of_neg (by simp [hh])]
def memN (s : S4) : List Nat := (List.range' 0 256).filter (has s)
theorem Members_eq {s : S4} (hs : okS s) (j : Nat) : runnelref02_Members.f (257 + j) s.1 s.2.1 s.2.2.1 s.2.2.2 = some ((memN s).map (fun (b : Nat) => (b : Int))) := by
  have h := Members_loop hs 256 0 [] rfl (by simp) j
  rw [show 256 + 1 + j = 257 + j by omega] at h
  exact h
end Go.Proofs.YtcmipoicnonaeaaDoor.F
end
section
namespace Go.Proofs.YtcmipoicnonaeaaDoor.F
open Go.RowKit Go.Proofs.YtcmipoicnonaeaaDoorW.PrintWords
set_option linter.unusedVariables false
set_option linter.unusedSimpArgs false
theorem low_bit : ∀ (n : Nat), 0 < n → ∃ k m, n = 2 ^ (k + 1) * m + 2 ^ k := by
  intro n
  induction n using Nat.strongRecOn with
  | _ n ih =>
    intro h
    by_cases ho : n % 2 = 1
    · exact ⟨0, n / 2, by omega⟩
    · obtain ⟨k, m, e⟩ := ih (n / 2) (by omega) (by omega)
      refine ⟨k + 1, m, ?_⟩
      rw [Nat.pow_succ 2 (k + 1), Nat.pow_succ 2 k]
      have e2 : n = 2 * (n / 2) := by omega
      rw [e2, e, Nat.pow_succ]
      generalize 2 ^ k = p
      rw [Nat.mul_add]
      congr 1
      · rw [← Nat.mul_assoc, Nat.mul_comm 2 (p * 2)]
      · omega
theorem tb_low (k m r : Nat) (hr : r < 2 ^ (k + 1)) (j : Nat) : (2 ^ (k + 1) * m + r).testBit j = if j < k + 1 then r.testBit j else m.testBit (j - (k + 1)) := Nat.testBit_two_pow_mul_add m hr j
theorem pow_lt_succ (k : Nat) : 2 ^ k < 2 ^ (k + 1) := Nat.pow_lt_pow_right (by decide) (by omega)
theorem tb_n (k m j : Nat) : (2 ^ (k + 1) * m + 2 ^ k).testBit j = if j < k + 1 then decide (k = j) else m.testBit (j - (k + 1)) := by
  rw [tb_low k m _ (pow_lt_succ k), Nat.testBit_two_pow]
theorem pred_and (k m : Nat) : (2 ^ (k + 1) * m + 2 ^ k) &&& (2 ^ (k + 1) * m + 2 ^ k - 1) = 2 ^ (k + 1) * m := by
  have h1 : 0 < 2 ^ k := Nat.two_pow_pos k
  apply Nat.eq_of_testBit_eq
  intro j
  rw [Nat.testBit_and, tb_n, show 2 ^ (k + 1) * m + 2 ^ k - 1 = 2 ^ (k + 1) * m + (2 ^ k - 1) by omega, tb_low k m _ (by have := pow_lt_succ k; omega), Nat.testBit_two_pow_sub_one, ← Nat.add_zero (2 ^ (k + 1) * m), tb_low k m 0 (Nat.two_pow_pos _)]
  by_cases hj : j < k + 1
  · simp only [hj, if_true, Nat.zero_testBit]
    by_cases hk : k = j
    · subst hk; simp
    · simp [hk]
  · simp only [hj, if_false, Bool.and_self]
theorem neg_and (k m : Nat) (hk : k < 64) (h : 2 ^ (k + 1) * m + 2 ^ k < 2 ^ 64) : (2 ^ (k + 1) * m + 2 ^ k) &&& (2 ^ 64 - (2 ^ (k + 1) * m + 2 ^ k)) = 2 ^ k := by
  have e64 : 2 ^ 64 = 2 ^ (k + 1) * 2 ^ (63 - k) := by rw [← Nat.pow_add, show k + 1 + (63 - k) = 64 by omega]
  have hm : m < 2 ^ (63 - k) := by
    have : 2 ^ (k + 1) * m < 2 ^ (k + 1) * 2 ^ (63 - k) := by rw [← e64]; exact Nat.lt_of_le_of_lt (Nat.le_add_right _ _) h
    exact Nat.lt_of_mul_lt_mul_left this
  have e : 2 ^ 64 - (2 ^ (k + 1) * m + 2 ^ k) = 2 ^ (k + 1) * (2 ^ (63 - k) - (m + 1)) + 2 ^ k := by
    have e1 : 2 ^ (k + 1) * (2 ^ (63 - k) - (m + 1)) = 2 ^ (k + 1) * 2 ^ (63 - k) - 2 ^ (k + 1) * (m + 1) := Nat.mul_sub _ _ _
    have e2 : 2 ^ (k + 1) * (m + 1) = 2 ^ (k + 1) * m + 2 ^ (k + 1) := by rw [Nat.mul_add, Nat.mul_one]
    have e3 : 2 ^ (k + 1) = 2 ^ k + 2 ^ k := by rw [Nat.pow_succ]; omega
    have e4 : 2 ^ (k + 1) * (m + 1) ≤ 2 ^ (k + 1) * 2 ^ (63 - k) := Nat.mul_le_mul_left _ hm
    rw [e1, e64]
    omega
  rw [e]
  apply Nat.eq_of_testBit_eq
  intro j
  rw [Nat.testBit_and, tb_n, tb_n, Nat.testBit_two_pow]
  by_cases hj : j < k + 1
  · simp only [hj, if_true, Bool.and_self]
  · simp only [hj, if_false]
    rw [Nat.testBit_two_pow_sub_succ hm, decide_eq_false (show ¬ k = j by omega)]
    cases m.testBit (j - (k + 1)) <;> simp
theorem tz_table : ((List.range 64).all fun k => dbTab.getD (IntKind.u64.wrap ((2 ^ k : Nat) * 285870213051353865 : Int) / 288230376151711744).toNat 0 == (k : Int)) = true := by kernel_rfl
theorem tz_eq (k m : Nat) (hk : k < 64) (h : 2 ^ (k + 1) * m + 2 ^ k < 2 ^ 64) : tz ((2 ^ (k + 1) * m + 2 ^ k : Nat) : Int) = (k : Int) := by
  have hp : 0 < 2 ^ k := Nat.two_pow_pos k
  have hw : IntKind.u64.wrap (-((2 ^ (k + 1) * m + 2 ^ k : Nat) : Int)) = ((2 ^ 64 - (2 ^ (k + 1) * m + 2 ^ k) : Nat) : Int) := by
    obtain ⟨q, hq⟩ : ∃ q, 2 ^ (k + 1) * m + 2 ^ k = q := ⟨_, rfl⟩
    rw [hq] at h ⊢
    have : 0 < q := by omega
    simp [IntKind.wrap, IntKind.bits, IntKind.signed]
    omega
  unfold tz tzIx
  rw [hw, u64_and_nat _ _ (by simpa using h) (by omega), neg_and k m hk h]
  exact beq_iff_eq.1 (List.all_eq_true.1 tz_table k (List.mem_range.2 hk))
def bitsN (n : Nat) : List Nat := (List.range' 0 64).filter n.testBit
theorem bits_step (k m : Nat) (hk : k < 64) : bitsN (2 ^ (k + 1) * m + 2 ^ k) = k :: bitsN (2 ^ (k + 1) * m) := by
  unfold bitsN
  have e : List.range' 0 64 = List.range' 0 k ++ k :: List.range' (k + 1) (63 - k) := by
    have e0 := @List.range'_append_1 0 k (64 - k)
    rw [show k + (64 - k) = 64 by omega, Nat.zero_add] at e0
    rw [← e0, show 64 - k = (63 - k) + 1 by omega, List.range'_succ]
  have hz : ∀ j, (2 ^ (k + 1) * m).testBit j = if j < k + 1 then false else m.testBit (j - (k + 1)) := by
    intro j
    rw [← Nat.add_zero (2 ^ (k + 1) * m), tb_low k m 0 (Nat.two_pow_pos _)]
    simp
  have f1 : (List.range' 0 k).filter (2 ^ (k + 1) * m + 2 ^ k).testBit = [] := List.filter_eq_nil_iff.2 (fun j hj => by rw [List.mem_range'_1] at hj; rw [tb_n, if_pos (by omega)]; simp; omega)
  have f2 : (List.range' 0 k).filter (2 ^ (k + 1) * m).testBit = [] := List.filter_eq_nil_iff.2 (fun j hj => by rw [List.mem_range'_1] at hj; rw [hz, if_pos (by omega)]; simp)
  rw [e, List.filter_append, List.filter_append, f1, f2]
  rw [List.filter_cons_of_pos (by rw [tb_n, if_pos (by omega)]; simp), List.filter_cons_of_neg (by rw [hz, if_pos (by omega)]; simp)]
  simp only [List.nil_append, List.cons.injEq, true_and]
  apply List.filter_congr
  intro j hj
  rw [List.mem_range'_1] at hj
  rw [tb_n, hz, if_neg (by omega), if_neg (by omega)]
theorem wordL_bits (base : Nat) : ∀ (n : Nat), n < 2 ^ 64 → wordL (base : Int) n (n : Int) = (bitsN n).map (fun i => (base + i).toUInt8) := by
  intro n
  induction n using Nat.strongRecOn with
  | _ n ih =>
    intro h
    by_cases h0 : n = 0
    · subst h0
      simp [wordL, bitsN]
    · obtain ⟨k, m, e⟩ := low_bit n (by omega)
      have hk : k < 64 := by
        by_cases hk : k < 64
        · exact hk
        · have : 2 ^ 64 ≤ 2 ^ k := Nat.pow_le_pow_right (by decide) (by omega)
          omega
      have hp : 0 < 2 ^ k := Nat.two_pow_pos k
      have hs := wordL_step (base : Int) (x := (n : Int)) (by omega) (by omega) (by omega)
      have ea : Go.bits .and .u64 (n : Int) ((n : Int) - 1) = ((2 ^ (k + 1) * m : Nat) : Int) := by
        rw [show ((n : Int) - 1) = ((n - 1 : Nat) : Int) by omega, u64_and_nat _ _ (by omega) (by omega), e, pred_and]
      rw [ea] at hs
      rw [show ((n : Int)).toNat = n by omega, show (((2 ^ (k + 1) * m : Nat) : Int)).toNat = 2 ^ (k + 1) * m by omega] at hs
      rw [hs, ih (2 ^ (k + 1) * m) (by omega) (by omega)]
      subst e
      rw [tz_eq k m hk h, bits_step k m hk, List.map_cons]
      rfl
theorem word_part (s : S4) (k : Nat) (hk : k < 4) : (List.range' (64 * k) 64).filter (has s) = (bitsN (wrd s k)).map (fun i => 64 * k + i) := by
  have e : List.range' (64 * k) 64 = (List.range' 0 64).map (fun i => 64 * k + i) := by rw [List.map_add_range']; rfl
  rw [e, List.filter_map]
  unfold bitsN
  congr 1
  apply List.filter_congr
  intro j hj
  rw [List.mem_range'_1] at hj
  show has s (64 * k + j) = _
  unfold has
  rw [show (64 * k + j) / 64 = k by omega, show (64 * k + j) % 64 = j by omega]
theorem range_parts : List.range' (64 * 0) 64 ++ (List.range' (64 * 1) 64 ++ (List.range' (64 * 2) 64 ++ List.range' (64 * 3) 64)) = List.range' 0 256 := by kernel_rfl
theorem memN_parts (s : S4) : memN s = (bitsN (wrd s 0)).map (fun i => 64 * 0 + i) ++ ((bitsN (wrd s 1)).map (fun i => 64 * 1 + i) ++ ((bitsN (wrd s 2)).map (fun i => 64 * 2 + i) ++ (bitsN (wrd s 3)).map (fun i => 64 * 3 + i))) := by
  rw [← word_part s 0 (by decide), ← word_part s 1 (by decide), ← word_part s 2 (by decide), ← word_part s 3 (by decide), ← List.filter_append, ← List.filter_append, ← List.filter_append, range_parts]
  rfl
theorem membL_eq {s : S4} (h : okS s) : membL s.1 s.2.1 s.2.2.1 s.2.2.2 = (memN s).map Nat.toUInt8 := by
  obtain ⟨h0, h1, h2, h3⟩ := h
  unfold w64 at *
  have w0 := wordL_bits 0 s.1.toNat (by omega)
  have w1 := wordL_bits 64 s.2.1.toNat (by omega)
  have w2 := wordL_bits 128 s.2.2.1.toNat (by omega)
  have w3 := wordL_bits 192 s.2.2.2.toNat (by omega)
  rw [Int.toNat_of_nonneg h0.1] at w0
  rw [Int.toNat_of_nonneg h1.1] at w1
  rw [Int.toNat_of_nonneg h2.1] at w2
  rw [Int.toNat_of_nonneg h3.1] at w3
  unfold membL restL
  rw [memN_parts, List.map_append, List.map_append, List.map_append, List.map_map, List.map_map, List.map_map, List.map_map]
  have w0' : wordL 0 s.1.toNat s.1 = _ := w0
  have w1' : wordL 64 s.2.1.toNat s.2.1 = _ := w1
  have w2' : wordL 128 s.2.2.1.toNat s.2.2.1 = _ := w2
  have w3' : wordL 192 s.2.2.2.toNat s.2.2.2 = _ := w3
  rw [w0', w1', w2', w3']
  rfl
theorem memN_lt (s : S4) : ∀ b ∈ memN s, b < 256 := filt_lt _
theorem membL_nat {s : S4} (h : okS s) : (membL s.1 s.2.1 s.2.2.1 s.2.2.2).map UInt8.toNat = memN s := by
  rw [membL_eq h, List.map_map]
  conv => rhs; rw [← List.map_id (memN s)]
  apply List.map_congr_left
  intro b hb
  have := memN_lt s b hb
  show (Nat.toUInt8 b).toNat = b
  simp only [Nat.toUInt8, UInt8.toNat_ofNat']
  omega
theorem memN_len (s : S4) : (memN s).length ≤ 256 := by
  have := List.length_filter_le (has s) (List.range' 0 256)
  simpa [memN] using this
theorem membL_len {s : S4} (h : okS s) : (membL s.1 s.2.1 s.2.2.1 s.2.2.2).length ≤ 256 := by
  have := congrArg List.length (membL_nat h)
  rw [List.length_map] at this
  rw [this]
  exact memN_len s
theorem memN_rise (s : S4) : (memN s).Pairwise (· < ·) := List.Pairwise.filter _ List.pairwise_lt_range'
theorem membL_rise {s : S4} (h : okS s) : (membL s.1 s.2.1 s.2.2.1 s.2.2.2).Pairwise (fun a b => a.toNat < b.toNat) := by
  have := memN_rise s
  rw [← membL_nat h, List.pairwise_map] at this
  exact this
theorem membL_nil {s : S4} (h : okS s) : membL s.1 s.2.1 s.2.2.1 s.2.2.2 = [] ↔ s = zeroS := by
  constructor
  · intro e
    refine ext4 h zeroS_ok fun c hc => ?_
    rw [has_zero]
    have hm : memN s = [] := by rw [← membL_nat h, e]; rfl
    have := mem_range0 hc (has s)
    rw [← this]
    show decide (c ∈ memN s) = false
    rw [hm]
    simp
  · rintro rfl
    simp [membL, restL, zeroS, wordL]
end Go.Proofs.YtcmipoicnonaeaaDoor.F
end
section
namespace Go.Proofs.YtcmipoicnonaeaaDoor.F
open Go.RowKit Go.Proofs.YtcmipoicnonaeaaDoorW.PrintWords
set_option linter.unusedVariables false
set_option linter.unusedSimpArgs false
def takeR : UInt8 → List UInt8 → List UInt8 × List UInt8
  | _, [] => ([], [])
  | x, c :: l => if isSpec c = false ∧ c.toNat = x.toNat + 1 then (c :: (takeR c l).1, (takeR c l).2) else ([], c :: l)
def R : Nat → List UInt8 → List UInt8
  | 0, _ => []
  | _ + 1, [] => []
  | n + 1, b :: l => if isSpec b then [91, 46, b, 46, 93] ++ R n l else squeeze (b :: (takeR b l).1) ++ R n (takeR b l).2
theorem R_nil (n : Nat) : R n [] = [] := by cases n <;> rfl
def fin (st : List UInt8 × List UInt8) : List UInt8 := st.1 ++ squeeze st.2
def Rise (l : List UInt8) : Prop := l.Pairwise (fun a b => a.toNat < b.toNat)
theorem next_iff {x c : UInt8} (h : x.toNat < c.toNat) : IntKind.u8.wrap ((x.toNat : Int) + 1) ≠ (c.toNat : Int) ↔ ¬ c.toNat = x.toNat + 1 := by
  have hc := c.toNat_lt
  rw [u8_keep (by omega) (by omega)]
  omega
theorem fold_R : ∀ (l : List UInt8), Rise l →
    (∀ n out, l.length ≤ n → fin (l.foldl stepT (out, [])) = out ++ R n l) ∧
    (∀ n out r x, l.length ≤ n → r ≠ [] → r.getLastD 0 = x → Rise (x :: l) → fin (l.foldl stepT (out, r)) = out ++ squeeze (r ++ (takeR x l).1) ++ R n (takeR x l).2)
  | [], _ => by
    refine ⟨fun n out _ => ?_, fun n out r x _ _ _ _ => ?_⟩
    · simp [fin, squeeze, R_nil]
    · simp [fin, takeR, R_nil]
  | c :: l, hr => by
    obtain ⟨hA, hB⟩ := fold_R l (List.Pairwise.of_cons hr)
    refine ⟨fun n out hn => ?_, fun n out r x hn hne hx hrx => ?_⟩
    · obtain ⟨m, rfl⟩ : ∃ m, n = m + 1 := ⟨n - 1, by simp at hn; omega⟩
      have hm : l.length ≤ m := by simpa using hn
      rw [List.foldl_cons]
      by_cases hs : isSpec c = true
      · rw [show stepT (out, []) c = (out ++ squeeze [] ++ [91, 46, c, 46, 93], []) by simp [stepT, hs], hA m _ hm, R, if_pos hs]
        simp [squeeze]
      · rw [show stepT (out, []) c = (out, [c]) by simp [stepT, hs], hB m out [c] c hm (by simp) rfl hr, R, if_neg hs]
        simp
    · rw [List.foldl_cons]
      have hxc : x.toNat < c.toNat := by
        have := List.pairwise_cons.1 hrx
        exact this.1 c List.mem_cons_self
      by_cases hs : isSpec c = true
      · obtain ⟨m, rfl⟩ : ∃ m, n = m + 1 := ⟨n - 1, by simp at hn; omega⟩
        have hm : l.length ≤ m := by simpa using hn
        rw [show stepT (out, r) c = (out ++ squeeze r ++ [91, 46, c, 46, 93], []) by simp [stepT, hs], hA m _ hm]
        rw [takeR, if_neg (fun h => by rw [hs] at h; cases h.1), R, if_pos hs]
        simp
      · have hs' : isSpec c = false := Bool.eq_false_iff.2 hs
        by_cases he : c.toNat = x.toNat + 1
        · have e1 : stepT (out, r) c = (out, r ++ [c]) := by
            simp only [stepT, hs', Bool.false_eq_true, if_false]
            rw [if_neg (fun h => (next_iff hxc).1 (by rw [← hx]; exact h.2) he)]
          rw [e1, hB n out (r ++ [c]) c (by simp at hn; omega) (by simp) (by simp) hr, takeR, if_pos ⟨hs', he⟩]
          simp
        · obtain ⟨m, rfl⟩ : ∃ m, n = m + 1 := ⟨n - 1, by simp at hn; omega⟩
          have hm : l.length ≤ m := by simpa using hn
          have e1 : stepT (out, r) c = (out ++ squeeze r, [c]) := by
            simp only [stepT, hs', Bool.false_eq_true, if_false]
            rw [if_pos ⟨hne, by rw [hx]; exact (next_iff hxc).2 he⟩]
          rw [e1, hB m _ [c] c hm (by simp) rfl hr, takeR, if_neg (fun h => he h.2), R, if_neg hs]
          simp
theorem textL_R {l : List UInt8} (h : Rise l) {n : Nat} (hn : l.length ≤ n) : textL l = [91] ++ R n l ++ [93] := by
  have := (fold_R l h).1 n [91] hn
  unfold textL foldT
  rw [← this]
  rfl
def toI (l : List UInt8) : List Int := l.map (fun b => (b.toNat : Int))
theorem toI_len (l : List UInt8) : (toI l).length = l.length := by simp [toI]
theorem rd_at (l : List UInt8) {i : Nat} (h : i < l.length) : rd (toI l) (i : Int) = ((l[i]'h).toNat : Int) := by
  simp [rd, toI, h, List.getD_eq_getElem?_getD]
theorem spec_all : ((List.range 256).all fun n => runnelref03_special.f ((n.toUInt8).toNat : Int) == some (isSpec n.toUInt8)) = true := by kernel_rfl
theorem spec_eq (b : UInt8) : runnelref03_special.f (b.toNat : Int) = some (isSpec b) := by
  have h := List.all_eq_true.1 spec_all b.toNat (List.mem_range.2 b.toNat_lt)
  have hb : b.toNat.toUInt8 = b := by simp
  rw [hb] at h
  exact beq_iff_eq.1 h
theorem wrap_sub {i j : Nat} (h : i ≤ j) (hj : j ≤ 1000) : wrap64 ((j : Int) - (i : Int)) = ((j - i : Nat) : Int) := by rw [wrap_id (by omega) (by omega)]; omega
theorem drop_at {l : List UInt8} {i : Nat} (h : i < l.length) : l.drop i = l[i] :: l.drop (i + 1) := List.drop_eq_getElem_cons h
theorem squeeze_cut {l : List UInt8} {i j : Nat} (hij : i < j) (hj : j ≤ l.length) :
    squeeze ((l.take j).drop i) = if 3 ≤ j - i then [l[i]'(by omega), 45, l[j - 1]'(by omega)] else (l.take j).drop i := by
  have hlen : ((l.take j).drop i).length = j - i := by simp; omega
  unfold squeeze
  rw [hlen]
  by_cases h3 : 3 ≤ j - i
  · rw [if_pos (by omega), if_pos h3]
    have hd : ((l.take j).drop i).headD 0 = l[i]'(by omega) := by
      rw [List.headD_eq_head?_getD, List.head?_drop, List.getElem?_take_of_lt hij, List.getElem?_eq_getElem (by omega)]
      rfl
    have hl : ((l.take j).drop i).getLastD 0 = l[j - 1]'(by omega) := by
      rw [List.getLastD_eq_getLast?, List.getLast?_eq_getElem?, hlen, List.getElem?_drop, List.getElem?_take_of_lt (by omega), show i + (j - i - 1) = j - 1 by omega, List.getElem?_eq_getElem (by omega)]
      rfl
    rw [hd, hl]
  · rw [if_neg (by omega), if_neg h3]
theorem toI_append (a b : List UInt8) : toI (a ++ b) = toI a ++ toI b := by simp [toI]
theorem take_snoc {l : List UInt8} {i j : Nat} (hij : i ≤ j) (hj : j < l.length) : (l.take (j + 1)).drop i = (l.take j).drop i ++ [l[j]] := by
  rw [List.take_add_one, List.getElem?_eq_getElem hj, List.drop_append_of_le_length (by simp; omega)]
  rfl
theorem cut_I (l : List UInt8) (i j : Nat) : ((toI l).take ((j : Int)).toNat).drop ((i : Int)).toNat = toI ((l.take j).drop i) := by
  simp [toI, List.map_drop, List.map_take]
set_option maxHeartbeats 1000000 in
theorem ref_loop {l : List UInt8} (hl : l.length ≤ 256) (hr : Rise l) : ∀ (k : Nat),
    (∀ (i : Nat) (o : List UInt8) (n : Nat), i ≤ l.length → o.length ≤ 1 + 5 * i → l.length - i ≤ n → 2 * (l.length - i) + 1 ≤ k → runnelref03_Text.l0 k (toI l) (toI o) (i : Int) = some (strOfNums (toI (o ++ R n (l.drop i) ++ [93])))) ∧
    (∀ (i j : Nat) (o : List UInt8) (n : Nat) (x : UInt8), i < j → j ≤ l.length → o.length ≤ 1 + 5 * i → l.length - j ≤ n → 2 * (l.length - j) + 2 ≤ k → l[j - 1]? = some x →
      runnelref03_Text.l1 k (toI l) (toI o) (i : Int) (j : Int) = some (strOfNums (toI (o ++ squeeze ((l.take j).drop i ++ (takeR x (l.drop j)).1) ++ R n (takeR x (l.drop j)).2 ++ [93])))) := by
  intro k
  induction k with
  | zero => exact ⟨fun _ _ _ _ _ _ h => by omega, fun _ _ _ _ _ _ _ _ _ h _ => by omega⟩
  | succ k ih =>
    obtain ⟨ihA, ihB⟩ := ih
    refine ⟨fun i o n hi ho hn hk => ?_, fun i j o n x hij hj ho hn hk hx => ?_⟩
    · rw [runnelref03_Text.l0, toI_len, toI_len]
      by_cases hlt : i < l.length
      · obtain ⟨m, rfl⟩ : ∃ m, n = m + 1 := ⟨n - 1, by omega⟩
        rw [if_pos (by omega), if_pos (by omega), rd_at l hlt, spec_eq, Option.bind_some, drop_at hlt, R]
        by_cases hs : isSpec l[i] = true
        · rw [if_pos hs, Option.bind_some, if_pos hs, if_pos (by simp; omega), wrap_succ (by omega)]
          have := ihA (i + 1) (o ++ [91, 46, l[i], 46, 93]) m (by omega) (by simp; omega) (by omega) (by omega)
          rw [toI_append] at this
          refine this.trans ?_
          simp
        · rw [if_neg hs, if_neg hs, wrap_succ (by omega)]
          have := ihB i (i + 1) o m l[i] (by omega) (by omega) ho (by omega) (by omega) (by rw [Nat.add_sub_cancel]; exact List.getElem?_eq_getElem hlt)
          refine this.trans ?_
          rw [take_snoc (Nat.le_refl i) hlt, List.drop_eq_nil_of_le (by simp; omega)]
          simp
      · rw [if_neg (by omega), if_pos (by omega), List.drop_eq_nil_of_le (by omega), R_nil, toI_append, toI_append]
        simp [toI]
    · have hjx : x = l[j - 1]'(by omega) := by
        rw [List.getElem?_eq_getElem (by omega)] at hx
        exact (Option.some.inj hx).symm
      have e1 := wrap_sub (i := i) (j := j) (by omega) (by omega)
      have e2 : wrap64 ((j : Int) - 1) = ((j - 1 : Nat) : Int) := by rw [wrap_id (by omega) (by omega)]; omega
      have g1 : (0 ≤ (i : Int)) = True := eq_true (by omega)
      have g2 : ((i : Int) < (l.length : Int)) = True := eq_true (by omega)
      have g3 : (0 ≤ ((j - 1 : Nat) : Int)) = True := eq_true (by omega)
      have g4 : (((j - 1 : Nat) : Int) < (l.length : Int)) = True := eq_true (by omega)
      have g5 : ((i : Int) ≤ (j : Int)) = True := eq_true (by omega)
      have g6 : ((j : Int) ≤ (l.length : Int)) = True := eq_true (by omega)
      have r1 := rd_at l (show i < l.length by omega)
      have r2 := rd_at l (show j - 1 < l.length by omega)
      have hsq := squeeze_cut (l := l) hij hj
      have hql : (squeeze ((l.take j).drop i)).length ≤ j - i := by
        have := squeeze_len ((l.take j).drop i)
        have h2 : ((l.take j).drop i).length = j - i := by simp; omega
        omega
      have hA := ihA j (o ++ squeeze ((l.take j).drop i)) n hj (by rw [List.length_append]; omega) hn (by omega)
      have fl1 : (3 ≤ j - i) → toI o ++ [((l[i]'(by omega)).toNat : Int), 45, ((l[j - 1]'(by omega)).toNat : Int)] = toI (o ++ squeeze ((l.take j).drop i)) := fun h3 => by
        rw [hsq, if_pos h3, toI_append]; rfl
      have fl2 : ¬ (3 ≤ j - i) → toI o ++ toI ((l.take j).drop i) = toI (o ++ squeeze ((l.take j).drop i)) := fun h3 => by
        rw [hsq, if_neg h3, toI_append]
      have hcl : ((l.take j).drop i).length ≤ 256 := by simp; omega
      rw [runnelref03_Text.l1]
      simp only [toI_len, e1, e2, g1, g2, g3, g4, g5, g6, r1, r2, cut_I, if_true, Option.bind_some, ge_iff_le]
      by_cases hlt : j < l.length
      · have g7 : ((j : Int) < (l.length : Int)) = True := eq_true (by omega)
        have g8 : (0 ≤ (j : Int)) = True := eq_true (by omega)
        have r3 := rd_at l hlt
        simp only [g7, g8, r3, spec_eq, if_true, Option.bind_some]
        rw [drop_at hlt]
        by_cases hs : isSpec l[j] = true
        · have htk : takeR x (l[j] :: l.drop (j + 1)) = ([], l[j] :: l.drop (j + 1)) := by rw [takeR, if_neg (fun h => by rw [hs] at h; cases h.1)]
          rw [if_pos hs, htk]
          rw [drop_at hlt] at hA
          simp only [List.append_nil]
          by_cases h3 : 3 ≤ j - i
          · rw [if_pos (by omega), if_pos (by simp; omega), fl1 h3]; exact hA
          · rw [if_neg (by omega), if_pos (by omega), fl2 h3]; exact hA
        · have hs' : isSpec l[j] = false := Bool.eq_false_iff.2 hs
          rw [if_neg hs]
          have hb1 := (l[j]).toNat_lt
          have hb2 := (l[j - 1]'(by omega)).toNat_lt
          have ew : wrap64 (((l[j]).toNat : Nat) : Int) = ((l[j]).toNat : Int) := wrap_nat (by omega)
          have ew2 : wrap64 (wrap64 (((l[j - 1]'(by omega)).toNat : Nat) : Int) + 1) = (((l[j - 1]'(by omega)).toNat + 1 : Nat) : Int) := by rw [wrap_nat (by omega), wrap_succ (by omega)]
          simp only [ew, ew2]
          by_cases he : (l[j]).toNat = (l[j - 1]'(by omega)).toNat + 1
          · have htk : takeR x (l[j] :: l.drop (j + 1)) = (l[j] :: (takeR l[j] (l.drop (j + 1))).1, (takeR l[j] (l.drop (j + 1))).2) := by rw [takeR, if_pos ⟨hs', by rw [hjx]; exact he⟩]
            rw [if_pos (by rw [he]), wrap_succ (by omega), htk]
            have := ihB i (j + 1) o n l[j] (by omega) (by omega) ho (by omega) (by omega) (by rw [Nat.add_sub_cancel]; exact List.getElem?_eq_getElem hlt)
            refine this.trans ?_
            rw [take_snoc (by omega) hlt]
            simp
          · have htk : takeR x (l[j] :: l.drop (j + 1)) = ([], l[j] :: l.drop (j + 1)) := by rw [takeR, if_neg (fun h => he (by rw [← hjx]; exact h.2))]
            rw [if_neg (fun h => he (Int.ofNat_inj.1 h)), htk]
            rw [drop_at hlt] at hA
            simp only [List.append_nil]
            by_cases h3 : 3 ≤ j - i
            · rw [if_pos (by omega), if_pos (by simp; omega), fl1 h3]; exact hA
            · rw [if_neg (by omega), if_pos (by omega), fl2 h3]; exact hA
      · have g7 : ((j : Int) < (l.length : Int)) = False := eq_false (by omega)
        simp only [g7, if_false]
        have hd : l.drop j = [] := List.drop_eq_nil_of_le (by omega)
        rw [hd] at hA ⊢
        simp only [takeR, List.append_nil]
        by_cases h3 : 3 ≤ j - i
        · rw [if_pos (by omega), if_pos (by simp; omega), fl1 h3]; exact hA
        · rw [if_neg (by omega), if_pos (by omega), fl2 h3]; exact hA
end Go.Proofs.YtcmipoicnonaeaaDoor.F
end
section
namespace Go.Proofs.YtcmipoicnonaeaaDoor.Pure
open Go.RowKit Go.Proofs.YtcmipoicnonaeaaDoor.F Go.Proofs.YtcmipoicnonaeaaDoorW.PrintWords
set_option linter.unusedVariables false
theorem bText_eq {s : S4} (h : okS s) : bracket_Text.f s.1 s.2.1 s.2.2.1 s.2.2.2 = some (if s = zeroS then ⟨#[91, 94, 0, 45, 255, 93]⟩ else strOfNums (toI (textL (membL s.1 s.2.1 s.2.2.1 s.2.2.2)))) := by
  unfold bracket_Text.f
  rw [if_pos (show u64ok s.1 ∧ u64ok s.2.1 ∧ u64ok s.2.2.1 ∧ u64ok s.2.2.2 from h)]
  by_cases hz : s = zeroS
  · subst hz
    rw [if_pos ⟨rfl, rfl, rfl, rfl⟩, if_pos rfl]
  · rw [if_neg (fun q => hz (by obtain ⟨s0, s1, s2, s3⟩ := s; simp only at q; obtain ⟨rfl, rfl, rfl, rfl⟩ := q; rfl)), if_pos (membL_len h), if_neg hz]
    rfl
theorem rText_eq {s : S4} (h : okS s) (j : Nat) : runnelref03_Text.f (600 + j) s.1 s.2.1 s.2.2.1 s.2.2.2 = some (if s = zeroS then ⟨#[91, 94, 0, 45, 255, 93]⟩ else strOfNums (toI (textL (membL s.1 s.2.1 s.2.2.1 s.2.2.2)))) := by
  unfold runnelref03_Text.f
  rw [show 600 + j = 257 + (343 + j) by omega, Members_eq h, Option.bind_some]
  have hm : (memN s).map (fun (b : Nat) => (b : Int)) = toI (membL s.1 s.2.1 s.2.2.1 s.2.2.2) := by
    rw [← membL_nat h, List.map_map]
    rfl
  rw [hm, toI_len]
  by_cases hz : s = zeroS
  · subst hz
    rw [(membL_nil zeroS_ok).2 rfl, if_pos (rfl : zeroS = zeroS), if_pos (by simp)]
    rfl
  · have hn : membL s.1 s.2.1 s.2.2.1 s.2.2.2 ≠ [] := fun q => hz ((membL_nil h).1 q)
    have hl := membL_len h
    have hp := List.length_pos_iff.2 hn
    rw [if_neg (by omega), if_neg hz]
    have := (ref_loop hl (membL_rise h) (257 + (343 + j))).1 0 [91] (membL s.1 s.2.1 s.2.2.1 s.2.2.2).length (Nat.zero_le _) (by simp) (by omega) (by omega)
    rw [List.drop_zero, ← textL_R (membL_rise h) (Nat.le_refl _)] at this
    exact this
theorem awake_true (j : Nat) : runnellaw03_awake.f (300 + j) = some true := by
  have h0 : runnellaw03_awake.f 300 = some true := by kernel_rfl
  induction j with
  | zero => exact h0
  | succ j ih => exact runnellaw03_awake.mono (300 + j) true ih
theorem BracketTexts {s : S4} (h : okS s) : ∃ k, runnellaw03_BracketTexts.f k s.1 s.2.1 s.2.2.1 s.2.2.2 = some true := by
  refine ⟨600, ?_⟩
  unfold runnellaw03_BracketTexts.f
  rw [show 600 = 300 + 300 from rfl, awake_true 300, Option.bind_some, if_pos rfl, bText_eq h, Option.bind_some]
  have := rText_eq h 0
  rw [show 600 + 0 = 300 + 300 from rfl] at this
  rw [this, Option.bind_some, beq_self_eq_true]
end Go.Proofs.YtcmipoicnonaeaaDoor.Pure
end
