/- Texts of this claim, 26 of 29: F17, F4. -/

import Derived.Test.YtcmipoicnonaeaaKS4
import Derived.Test.YtcmipoicnonaeaaKS21
import Derived.Test.YtcmipoicnonaeaaKS22
import Derived.Test.YtcmipoicnonaeaaKS23
import Derived.Test.YtcmipoicnonaeaaKS25
section
namespace Go.Proofs.Ytcmipoicnonaeaa.F
open Go.RowKit Go.Proofs.YtcmipoicnonaeaaW.PrintWords Go.Proofs.YtcmipoicnonaeaaW.PrintLast Go.Proofs.YtcmipoicnonaeaaW.PrintMore
attribute [local go_sem] qbs qbr qc7 qc0 qbh qbj qbp qbq
set_option linter.unusedVariables false
set_option linter.unusedSimpArgs false
mutual
def qao.l0 : Nat → Int → Int → Int → Int → Int → Int → Int → Int → Int → Int → List (S27) → Option (Int)
 | 0, _, _, _, _, _, _, _, _, _, _, _ => none
 | k + 1, x3, x4, x284000, x284001, x284002, x284003, x284004, x284005, x284006, x284007, x284008 => if x4 < (x284008.length : Int) then (if 0 ≤ x4 then ((qao.f k ((qag x284008 x4).f0) ((qag x284008 x4).f1.f0) ((qag x284008 x4).f1.f1) ((qag x284008 x4).f1.f2) ((qag x284008 x4).f1.f3) ((qag x284008 x4).f2) ((qag x284008 x4).f3) ((qag x284008 x4).f4) ((qag x284008 x4).f5)).bind fun t285 => (qao.l0 k (wrap64 (x3 + t285)) (wrap64 (x4 + 1)) x284000 x284001 x284002 x284003 x284004 x284005 x284006 x284007 x284008)) else (none)) else (if x284000 = 1 then (qao.j1 k x3 x284000 (x284000 == 1) x284000 x284001 x284002 x284003 x284004 x284005 x284006 x284007 x284008) else (qao.j1 k x3 x284000 (x284000 == 6) x284000 x284001 x284002 x284003 x284004 x284005 x284006 x284007 x284008))
def qao.j1 : Nat → Int → Int → Bool → Int → Int → Int → Int → Int → Int → Int → Int → List (S27) → Option (Int)
 | 0, _, _, _, _, _, _, _, _, _, _, _, _ => none
 | k + 1, x3, x21, x22, x284000, x284001, x284002, x284003, x284004, x284005, x284006, x284007, x284008 => if x22 = true then (some 1) else (if x21 = 5 then (if x284006 ≥ 0 then (some (wrap64 (x3 * x284006))) else (if x284005 > 0 then (some (wrap64 (x3 * x284005))) else (some x3))) else (some x3))
def qao.f : Nat → Int → Int → Int → Int → Int → Int → Int → Int → List (S27) → Option (Int)
 | 0, _, _, _, _, _, _, _, _, _ => none
 | k + 1, a0_0, a0_1, a0_2, a0_3, a0_4, a0_5, a0_6, a0_7, l0_8 => qao.l0 k 0 0 a0_0 a0_1 a0_2 a0_3 a0_4 a0_5 a0_6 a0_7 l0_8
end
set_option maxHeartbeats 8000000 in
set_option maxRecDepth 100000 in
theorem qao.calls (k : Nat) : ∀ (a0_0 : Int) (a0_1 : Int) (a0_2 : Int) (a0_3 : Int) (a0_4 : Int) (a0_5 : Int) (a0_6 : Int) (a0_7 : Int) (A0_8 : Option Addr) (c0_8 : Nat) (l0_8 : List (S27)) (r : Int) (w : World) (hr0_8 : Kd.C k27 w A0_8 l0_8.length l0_8) (hc0_8 : l0_8.length ≤ c0_8) (h : qao.f k a0_0 a0_1 a0_2 a0_3 a0_4 a0_5 a0_6 a0_7 l0_8 = some r),
  Calls Try.prog 17 #[.agg #[.int .i64 a0_0, .int .u64 a0_1, .int .u64 a0_2, .int .u64 a0_3, .int .u64 a0_4, .int .i64 a0_5, .int .i64 a0_6, .int .i64 a0_7, .slice A0_8 l0_8.length c0_8]] w fun e w' => e = .returned (.int .i64 r) ∧ Below w.heap.size w w' := by
 induction k using Nat.strongRecOn with
 | _ k ih =>
 intro a0_0 a0_1 a0_2 a0_3 a0_4 a0_5 a0_6 a0_7 A0_8 c0_8 l0_8 r w hr0_8 hc0_8 h
 cases k with
 | zero => exact absurd h (by simp [qao.f])
 | succ k =>
 simp only [qao.f] at h
 have hu27 := Try.underlying27
 have HR0_8 := qa0.mk hr0_8
 have HC0_8 := qa0.mk hc0_8
 clear hr0_8 hc0_8
 have HB := qa0.mk (Below.refl w.heap.size w)
 have H : (qao.l0 k 0 0 a0_0 a0_1 a0_2 a0_3 a0_4 a0_5 a0_6 a0_7 l0_8) = some r := h
 clear h
 have H' := qa0.mk H
 clear H
 go_enter Try.func17, Try.ntmps17
 go_wp2_with (first | ((with_reducible refine qb7 (N := 1) rfl ?_); refine qbb ?hg (N := 1) ?hd (cs := #[.int .i64 a0_0, .int .u64 a0_1, .int .u64 a0_2, .int .u64 a0_3, .int .u64 a0_4, .int .i64 a0_5, .int .i64 a0_6, .int .i64 a0_7, .slice A0_8 l0_8.length c0_8]) (t := 27) ?hr ?_; (case hd => rfl); (case hg => rfl); (case hr => first | (go_simp; done) | (go_simp; rfl)); intro gb283 hg w2 hbox hb; have n0_ := qa0.mk (qap (by repeat (first | (with_reducible first | exact HB.out | apply qa6 | apply qa7 | apply qa8) | exact HB.out)) hb); have n1_ := qa0.mk (hbox); have n2_ := qa0.mk ((by rw [hg]; exact (qaq (by repeat (first | (with_reducible first | exact HB.out | apply qa6 | apply qa7 | apply qa8) | exact HB.out))) : w.heap.size ≤ gb283)); have n3_ := qa0.mk ((by rw [hg]; exact (qaq (by repeat (first | (with_reducible first | exact HB.out | apply qa6 | apply qa7 | apply qa8) | exact HB.out))) : w.heap.size ≤ gb283)); clear HB; have HB := n0_; have BK283 := n1_; have GW283 := n2_; have GE283 := n3_; clear n0_ n1_ n2_ n3_; clear hb hbox hg))
 go_loopg [3, 4] k (fun kq v3 v4 w' => ∃ (x3_1 : Int) (x4_1 : Int), v3 = .int .i64 x3_1 ∧ v4 = .int .i64 x4_1 ∧ qa0 (qao.l0 kq x3_1 x4_1 a0_0 a0_1 a0_2 a0_3 a0_4 a0_5 a0_6 a0_7 l0_8 = some r) ∧ qa0 (kq ≤ k) ∧ qa0 (w'.heap[gb283]? = some (.cells #[.int .i64 a0_0, .int .u64 a0_1, .int .u64 a0_2, .int .u64 a0_3, .int .u64 a0_4, .int .i64 a0_5, .int .i64 a0_6, .int .i64 a0_7, (.slice A0_8 l0_8.length c0_8)] 27 (0, 0))) ∧ qa0 (Below w.heap.size w w'))
 case atStart => exact ⟨(0), (0), (by first | rfl | (simp; done) | (simp [*]; done) | (exfalso; simp only [decide_eq_true_eq] at *; omega)), (by first | rfl | (simp; done) | (simp [*]; done) | (exfalso; simp only [decide_eq_true_eq] at *; omega)), H', ⟨Nat.le_refl _⟩, ⟨by (with_reducible repeat (first | refine qa4 ?_ _ | refine qa5 ?_ | refine qa3 ?_ _)); exact BK283.out⟩, ⟨by repeat (first | (with_reducible first | exact HB.out | apply qa6 | apply qa7 | apply qa8 | refine qa9 ?_ GE283.out) | exact HB.out)⟩⟩
 case round =>
  clear H'
  try clear c1
  try clear p2
  obtain ⟨x3_1, x4_1, rfl, rfl, HA, HK1, BK283, HB⟩ := hrel
  cases gk with
  | zero => exact absurd HA.out (by simp [qao.l0])
  | succ k1 =>
   have H := HA.out
   clear HA
   simp only [qao.l0] at H
   by_cases c3 : x4_1 < (l0_8.length : Int)
   ·rw [if_pos c3] at H
    have c3b0 : decide (x4_1 < (l0_8.length : Int)) = true := decide_eq_true c3
    clear c3
    by_cases c4 : 0 ≤ x4_1
    ·rw [if_pos c4] at H
     have c4b0 : decide (0 ≤ x4_1) = true := decide_eq_true c4
     clear c4
     replace H := Option.bind_eq_some_iff.mp H
     obtain ⟨t285, A50, H⟩ := H
     replace H : (qao.l0 k1 (wrap64 (x3_1 + t285)) (wrap64 (x4_1 + 1)) a0_0 a0_1 a0_2 a0_3 a0_4 a0_5 a0_6 a0_7 l0_8) = some r := H
     have A5 := qa0.mk A50
     clear A50
     have H' := qa0.mk H
     clear H
     have hcz6_0 : wr.cell? ⟨gb283, 0, none⟩ = some (.int .i64 a0_0) := (qa2 BK283.out 0).trans rfl
     have hcz6_1 : wr.cell? ⟨gb283, 1, none⟩ = some (.int .u64 a0_1) := (qa2 BK283.out 1).trans rfl
     have hcz6_2 : wr.cell? ⟨gb283, 2, none⟩ = some (.int .u64 a0_2) := (qa2 BK283.out 2).trans rfl
     have hcz6_3 : wr.cell? ⟨gb283, 3, none⟩ = some (.int .u64 a0_3) := (qa2 BK283.out 3).trans rfl
     have hcz6_4 : wr.cell? ⟨gb283, 4, none⟩ = some (.int .u64 a0_4) := (qa2 BK283.out 4).trans rfl
     have hcz6_5 : wr.cell? ⟨gb283, 5, none⟩ = some (.int .i64 a0_5) := (qa2 BK283.out 5).trans rfl
     have hcz6_6 : wr.cell? ⟨gb283, 6, none⟩ = some (.int .i64 a0_6) := (qa2 BK283.out 6).trans rfl
     have hcz6_7 : wr.cell? ⟨gb283, 7, none⟩ = some (.int .i64 a0_7) := (qa2 BK283.out 7).trans rfl
     have hcz6_8 : wr.cell? ⟨gb283, 8, none⟩ = some (.slice A0_8 l0_8.length c0_8) := (qa2 BK283.out 8).trans rfl
     have hfz6_0 := qa1 BK283.out 0
     have hfz6_1 := qa1 BK283.out 1
     have hfz6_2 := qa1 BK283.out 2
     have hfz6_3 := qa1 BK283.out 3
     have hfz6_4 := qa1 BK283.out 4
     have hfz6_5 := qa1 BK283.out 5
     have hfz6_6 := qa1 BK283.out 6
     have hfz6_7 := qa1 BK283.out 7
     have hfz6_8 := qa1 BK283.out 8
     have p284 : 0 ≤ (x4_1 : Int) := of_decide_eq_true (by first | (with_reducible assumption) | assumption)
     have q284 : x4_1 < (l0_8.length : Int) := of_decide_eq_true (by first | (with_reducible assumption) | assumption)
     obtain ⟨ad284, A284_8, c284_8, e284, hx284_0, hx284_1, hx284_2, hx284_3, hx284_4, hx284_5, hx284_6, hx284_7, hx284_8, hl284_8, hi284_8⟩ := qdo HR0_8.out x4_1 p284 q284
     cases e284
     replace hx284_0 := (HB.out.cell (World.block_lt_of_cell? w _ hx284_0)).trans hx284_0
     replace hx284_1 := (HB.out.cell (World.block_lt_of_cell? w _ hx284_1)).trans hx284_1
     replace hx284_2 := (HB.out.cell (World.block_lt_of_cell? w _ hx284_2)).trans hx284_2
     replace hx284_3 := (HB.out.cell (World.block_lt_of_cell? w _ hx284_3)).trans hx284_3
     replace hx284_4 := (HB.out.cell (World.block_lt_of_cell? w _ hx284_4)).trans hx284_4
     replace hx284_5 := (HB.out.cell (World.block_lt_of_cell? w _ hx284_5)).trans hx284_5
     replace hx284_6 := (HB.out.cell (World.block_lt_of_cell? w _ hx284_6)).trans hx284_6
     replace hx284_7 := (HB.out.cell (World.block_lt_of_cell? w _ hx284_7)).trans hx284_7
     replace hx284_8 := (HB.out.cell (World.block_lt_of_cell? w _ hx284_8)).trans hx284_8
     have HR284_8 := qa0.mk hi284_8
     have HC284_8 := qa0.mk hl284_8
     clear hi284_8 hl284_8
     replace p284 := eq_true p284
     replace q284 := eq_true q284
     go_wp2_with (first | ((with_reducible refine qbc (f := 17) rfl ?_); refine qcc (some 18) rfl rfl Try.func17 (by kernel_rfl) rfl #[.agg #[.int .i64 ((qag l0_8 x4_1).f0), .int .u64 ((qag l0_8 x4_1).f1.f0), .int .u64 ((qag l0_8 x4_1).f1.f1), .int .u64 ((qag l0_8 x4_1).f1.f2), .int .u64 ((qag l0_8 x4_1).f1.f3), .int .i64 ((qag l0_8 x4_1).f2), .int .i64 ((qag l0_8 x4_1).f3), .int .i64 ((qag l0_8 x4_1).f4), .slice A284_8 ((qag l0_8 x4_1).f5).length c284_8]] rfl (by (try simp only [List.map_toArray, List.map_cons, List.map_nil]); first | done | rfl | (simp only [List.length_drop, List.length_take]; rfl)) ?_; (with_reducible refine (ih k1 (by have := HK1.out; omega) ((qag l0_8 x4_1).f0) ((qag l0_8 x4_1).f1.f0) ((qag l0_8 x4_1).f1.f1) ((qag l0_8 x4_1).f1.f2) ((qag l0_8 x4_1).f1.f3) ((qag l0_8 x4_1).f2) ((qag l0_8 x4_1).f3) ((qag l0_8 x4_1).f4) _ _ ((qag l0_8 x4_1).f5) t285 _ ?side1 ?side2 A5.out).mono ?_); (case side1 => repeat (first | exact (Kd.qdp HR284_8.out HB.out) | (with_reducible refine Kd.qj8 ?_ _) | (with_reducible refine Kd.qj2 ?_ _) | (with_reducible refine Kd.C_drew ?_))); (case side2 => exact HC284_8.out); rintro e w7 ⟨rfl, hb⟩; refine ⟨_, rfl, ?_⟩; have n0_ := qa0.mk (qae (g := gb283) (o := .cells #[.int .i64 a0_0, .int .u64 a0_1, .int .u64 a0_2, .int .u64 a0_3, .int .u64 a0_4, .int .i64 a0_5, .int .i64 a0_6, .int .i64 a0_7, .slice (some ad284) l0_8.length c0_8] 27 (0, 0)) (by (with_reducible repeat (first | refine qa4 ?_ _ | refine qa5 ?_ | refine qa3 ?_ _)); exact BK283.out) hb); have n1_ := qa0.mk (qap (by repeat (first | (with_reducible first | exact HB.out | apply qa6 | apply qa7 | apply qa8 | refine qa9 ?_ GE283.out) | exact HB.out)) hb); clear BK283; clear HB; have BK283 := n0_; have HB := n1_; clear n0_ n1_; (try clear hb); (try clear hb2); (try clear hk); (try clear hi)))
     go_roundg k1
     case measure => have := HK1.out; omega
     case rel => exact ⟨(wrap64 (x3_1 + t285)), (wrap64 (x4_1 + 1)), (by first | rfl | (simp; done) | (simp [*]; done) | (exfalso; simp only [decide_eq_true_eq] at *; omega)), (by first | rfl | (simp; done) | (simp [*]; done) | (exfalso; simp only [decide_eq_true_eq] at *; omega)), H', ⟨by have := HK1.out; omega⟩, ⟨by (with_reducible repeat (first | refine qa4 ?_ _ | refine qa5 ?_ | refine qa3 ?_ _)); exact BK283.out⟩, ⟨by repeat (first | (with_reducible first | exact HB.out | apply qa6 | apply qa7 | apply qa8 | refine qa9 ?_ GE283.out) | exact HB.out)⟩⟩
    ·rw [if_neg c4] at H
     exact absurd H (by simp)
   ·rw [if_neg c3] at H
    have c3b0 : decide (x4_1 < (l0_8.length : Int)) = false := decide_eq_false c3
    clear c3
    have HC8 := qa0.mk H
    clear H
    have hcz9_0 : wr.cell? ⟨gb283, 0, none⟩ = some (.int .i64 a0_0) := (qa2 BK283.out 0).trans rfl
    have hcz9_1 : wr.cell? ⟨gb283, 1, none⟩ = some (.int .u64 a0_1) := (qa2 BK283.out 1).trans rfl
    have hcz9_2 : wr.cell? ⟨gb283, 2, none⟩ = some (.int .u64 a0_2) := (qa2 BK283.out 2).trans rfl
    have hcz9_3 : wr.cell? ⟨gb283, 3, none⟩ = some (.int .u64 a0_3) := (qa2 BK283.out 3).trans rfl
    have hcz9_4 : wr.cell? ⟨gb283, 4, none⟩ = some (.int .u64 a0_4) := (qa2 BK283.out 4).trans rfl
    have hcz9_5 : wr.cell? ⟨gb283, 5, none⟩ = some (.int .i64 a0_5) := (qa2 BK283.out 5).trans rfl
    have hcz9_6 : wr.cell? ⟨gb283, 6, none⟩ = some (.int .i64 a0_6) := (qa2 BK283.out 6).trans rfl
    have hcz9_7 : wr.cell? ⟨gb283, 7, none⟩ = some (.int .i64 a0_7) := (qa2 BK283.out 7).trans rfl
    have hcz9_8 : wr.cell? ⟨gb283, 8, none⟩ = some (.slice A0_8 l0_8.length c0_8) := (qa2 BK283.out 8).trans rfl
    have hfz9_0 := qa1 BK283.out 0
    have hfz9_1 := qa1 BK283.out 1
    have hfz9_2 := qa1 BK283.out 2
    have hfz9_3 := qa1 BK283.out 3
    have hfz9_4 := qa1 BK283.out 4
    have hfz9_5 := qa1 BK283.out 5
    have hfz9_6 := qa1 BK283.out 6
    have hfz9_7 := qa1 BK283.out 7
    have hfz9_8 := qa1 BK283.out 8
    go_upto_if 22 with (fail)
    go_cut [22] (fun v22 wc => ∃ (kq : Nat) (x22_7 : Bool), v22 = .bool x22_7 ∧ qa0 (qao.j1 kq x3_1 a0_0 x22_7 a0_0 a0_1 a0_2 a0_3 a0_4 a0_5 a0_6 a0_7 l0_8 = some r) ∧ qa0 (kq ≤ k1) ∧ qa0 (wc.heap[gb283]? = some (.cells #[.int .i64 a0_0, .int .u64 a0_1, .int .u64 a0_2, .int .u64 a0_3, .int .u64 a0_4, .int .i64 a0_5, .int .i64 a0_6, .int .i64 a0_7, (.slice A0_8 l0_8.length c0_8)] 27 (0, 0))) ∧ qa0 (Below w.heap.size w wc))
    case first =>
     have H := HC8.out
     clear HC8
     by_cases c10 : a0_0 = 1
     ·rw [if_pos c10] at H
      have c10b0 : (a0_0 == 1) = true := beq_iff_eq.mpr c10
      have c10b1 : (a0_0 != 1) = false := bne_eq_false_iff_eq.mpr c10
      clear c10
      (first | rw [c10b0] | (simp only [qbk, qcl]; rw [c10b0]) | skip)
      have H' := qa0.mk H
      clear H
      go_wp2
      go_meet
      case rel => exact ⟨_, ((a0_0 == 1)), (by first | rfl | (simp; done) | (simp [*]; done) | (exfalso; simp only [decide_eq_true_eq] at *; omega)), H', ⟨by have := HK1.out; first | omega | exact Nat.le_refl _⟩, ⟨by (with_reducible repeat (first | refine qa4 ?_ _ | refine qa5 ?_ | refine qa3 ?_ _)); exact BK283.out⟩, ⟨by repeat (first | (with_reducible first | exact HB.out | apply qa6 | apply qa7 | apply qa8 | refine qa9 ?_ GE283.out) | exact HB.out)⟩⟩
     ·rw [if_neg c10] at H
      have c10b0 : (a0_0 == 1) = false := beq_eq_false_iff_ne.mpr c10
      have c10b1 : (a0_0 != 1) = true := bne_iff_ne.mpr c10
      (first | rw [c10b0] | (simp only [qbk, qcl]; rw [c10b0]) | skip)
      have H' := qa0.mk H
      clear H
      go_wp2
      go_meet
      case rel => exact ⟨_, ((a0_0 == 6)), (by first | rfl | (simp; done) | (simp [*]; done) | (exfalso; simp only [decide_eq_true_eq] at *; omega)), H', ⟨by have := HK1.out; first | omega | exact Nat.le_refl _⟩, ⟨by (with_reducible repeat (first | refine qa4 ?_ _ | refine qa5 ?_ | refine qa3 ?_ _)); exact BK283.out⟩, ⟨by repeat (first | (with_reducible first | exact HB.out | apply qa6 | apply qa7 | apply qa8 | refine qa9 ?_ GE283.out) | exact HB.out)⟩⟩
    case rest =>
     clear HC8
     try clear c1
     try clear c2
     try clear p2
     try clear q2
     try clear hx2
     try clear c3
     try clear c3b0
     try clear c4
     try clear c4b0
     try clear p6
     try clear c10
     try clear c10b0
     try clear c10b1
     try clear hcz6_0
     try clear hcz6_1
     try clear hcz6_2
     try clear hcz6_3
     try clear hcz6_4
     try clear hcz6_5
     try clear hcz6_6
     try clear hcz6_7
     try clear hcz6_8
     try clear hcz9_0
     try clear hcz9_1
     try clear hcz9_2
     try clear hcz9_3
     try clear hcz9_4
     try clear hcz9_5
     try clear hcz9_6
     try clear hcz9_7
     try clear hcz9_8
     try clear hfz6_0
     try clear hfz6_1
     try clear hfz6_2
     try clear hfz6_3
     try clear hfz6_4
     try clear hfz6_5
     try clear hfz6_6
     try clear hfz6_7
     try clear hfz6_8
     try clear hfz9_0
     try clear hfz9_1
     try clear hfz9_2
     try clear hfz9_3
     try clear hfz9_4
     try clear hfz9_5
     try clear hfz9_6
     try clear hfz9_7
     try clear hfz9_8
     try clear hx284_0
     try clear hx284_1
     try clear hx284_2
     try clear hx284_3
     try clear hx284_4
     try clear hx284_5
     try clear hx284_6
     try clear hx284_7
     try clear hx284_8
     try clear p2
     try clear p284
     try clear q284
     obtain ⟨kq, x22_7, rfl, HA, HJ7, BK283, HB⟩ := hcut
     cases kq with
     | zero => exact absurd HA.out (by simp [qao.j1])
     | succ kj7 =>
      have H := HA.out
      clear HA
      simp only [qao.j1] at H
      by_cases c11 : x22_7 = true
      ·subst c11
       have H1 : (some 1) = some r := by rw [if_pos rfl] at H; exact H
       clear H
       have H := H1
       clear H1
       obtain rfl := Option.some.inj H
       go_wp2
       go_ret
       exact ⟨by first | rfl | (simp only [wrap_wrap]; done) | (simp only [wrap_wrap]; rfl) | (simp [qah, qai] <;> rfl) | (simp [*, qah, qai] <;> rfl), by repeat (first | (with_reducible first | exact HB.out | apply qa6 | apply qa7 | apply qa8 | refine qa9 ?_ GE283.out) | exact HB.out)⟩
      ·replace c11 := Bool.eq_false_iff.mpr c11
       subst c11
       have H1 : (if a0_0 = 5 then (if a0_6 ≥ 0 then (some (wrap64 (x3_1 * a0_6))) else (if a0_5 > 0 then (some (wrap64 (x3_1 * a0_5))) else (some x3_1))) else (some x3_1)) = some r := by rw [if_neg (show ¬ (false = true) by decide)] at H; exact H
       clear H
       have H := H1
       clear H1
       by_cases c12 : a0_0 = 5
       ·rw [if_pos c12] at H
        have c12b0 : (a0_0 == 5) = true := beq_iff_eq.mpr c12
        have c12b1 : (a0_0 != 5) = false := bne_eq_false_iff_eq.mpr c12
        clear c12
        by_cases c13 : a0_6 ≥ 0
        ·rw [if_pos c13] at H
         have c13b0 : decide (0 ≤ a0_6) = true := decide_eq_true c13
         clear c13
         obtain rfl := Option.some.inj H
         have hcz14_0 : wc.cell? ⟨gb283, 0, none⟩ = some (.int .i64 a0_0) := (qa2 BK283.out 0).trans rfl
         have hcz14_1 : wc.cell? ⟨gb283, 1, none⟩ = some (.int .u64 a0_1) := (qa2 BK283.out 1).trans rfl
         have hcz14_2 : wc.cell? ⟨gb283, 2, none⟩ = some (.int .u64 a0_2) := (qa2 BK283.out 2).trans rfl
         have hcz14_3 : wc.cell? ⟨gb283, 3, none⟩ = some (.int .u64 a0_3) := (qa2 BK283.out 3).trans rfl
         have hcz14_4 : wc.cell? ⟨gb283, 4, none⟩ = some (.int .u64 a0_4) := (qa2 BK283.out 4).trans rfl
         have hcz14_5 : wc.cell? ⟨gb283, 5, none⟩ = some (.int .i64 a0_5) := (qa2 BK283.out 5).trans rfl
         have hcz14_6 : wc.cell? ⟨gb283, 6, none⟩ = some (.int .i64 a0_6) := (qa2 BK283.out 6).trans rfl
         have hcz14_7 : wc.cell? ⟨gb283, 7, none⟩ = some (.int .i64 a0_7) := (qa2 BK283.out 7).trans rfl
         have hcz14_8 : wc.cell? ⟨gb283, 8, none⟩ = some (.slice A0_8 l0_8.length c0_8) := (qa2 BK283.out 8).trans rfl
         have hfz14_0 := qa1 BK283.out 0
         have hfz14_1 := qa1 BK283.out 1
         have hfz14_2 := qa1 BK283.out 2
         have hfz14_3 := qa1 BK283.out 3
         have hfz14_4 := qa1 BK283.out 4
         have hfz14_5 := qa1 BK283.out 5
         have hfz14_6 := qa1 BK283.out 6
         have hfz14_7 := qa1 BK283.out 7
         have hfz14_8 := qa1 BK283.out 8
         go_wp2
         go_ret
         exact ⟨by first | rfl | (simp only [wrap_wrap]; done) | (simp only [wrap_wrap]; rfl) | (simp [qah, qai] <;> rfl) | (simp [*, qah, qai] <;> rfl), by repeat (first | (with_reducible first | exact HB.out | apply qa6 | apply qa7 | apply qa8 | refine qa9 ?_ GE283.out) | exact HB.out)⟩
        ·rw [if_neg c13] at H
         have c13b0 : decide (0 ≤ a0_6) = false := decide_eq_false c13
         clear c13
         by_cases c15 : a0_5 > 0
         ·rw [if_pos c15] at H
          have c15b0 : decide (0 < a0_5) = true := decide_eq_true c15
          clear c15
          obtain rfl := Option.some.inj H
          have hcz16_0 : wc.cell? ⟨gb283, 0, none⟩ = some (.int .i64 a0_0) := (qa2 BK283.out 0).trans rfl
          have hcz16_1 : wc.cell? ⟨gb283, 1, none⟩ = some (.int .u64 a0_1) := (qa2 BK283.out 1).trans rfl
          have hcz16_2 : wc.cell? ⟨gb283, 2, none⟩ = some (.int .u64 a0_2) := (qa2 BK283.out 2).trans rfl
          have hcz16_3 : wc.cell? ⟨gb283, 3, none⟩ = some (.int .u64 a0_3) := (qa2 BK283.out 3).trans rfl
          have hcz16_4 : wc.cell? ⟨gb283, 4, none⟩ = some (.int .u64 a0_4) := (qa2 BK283.out 4).trans rfl
          have hcz16_5 : wc.cell? ⟨gb283, 5, none⟩ = some (.int .i64 a0_5) := (qa2 BK283.out 5).trans rfl
          have hcz16_6 : wc.cell? ⟨gb283, 6, none⟩ = some (.int .i64 a0_6) := (qa2 BK283.out 6).trans rfl
          have hcz16_7 : wc.cell? ⟨gb283, 7, none⟩ = some (.int .i64 a0_7) := (qa2 BK283.out 7).trans rfl
          have hcz16_8 : wc.cell? ⟨gb283, 8, none⟩ = some (.slice A0_8 l0_8.length c0_8) := (qa2 BK283.out 8).trans rfl
          have hfz16_0 := qa1 BK283.out 0
          have hfz16_1 := qa1 BK283.out 1
          have hfz16_2 := qa1 BK283.out 2
          have hfz16_3 := qa1 BK283.out 3
          have hfz16_4 := qa1 BK283.out 4
          have hfz16_5 := qa1 BK283.out 5
          have hfz16_6 := qa1 BK283.out 6
          have hfz16_7 := qa1 BK283.out 7
          have hfz16_8 := qa1 BK283.out 8
          go_wp2
          go_ret
          exact ⟨by first | rfl | (simp only [wrap_wrap]; done) | (simp only [wrap_wrap]; rfl) | (simp [qah, qai] <;> rfl) | (simp [*, qah, qai] <;> rfl), by repeat (first | (with_reducible first | exact HB.out | apply qa6 | apply qa7 | apply qa8 | refine qa9 ?_ GE283.out) | exact HB.out)⟩
         ·rw [if_neg c15] at H
          have c15b0 : decide (0 < a0_5) = false := decide_eq_false c15
          clear c15
          obtain rfl := Option.some.inj H
          have hcz17_0 : wc.cell? ⟨gb283, 0, none⟩ = some (.int .i64 a0_0) := (qa2 BK283.out 0).trans rfl
          have hcz17_1 : wc.cell? ⟨gb283, 1, none⟩ = some (.int .u64 a0_1) := (qa2 BK283.out 1).trans rfl
          have hcz17_2 : wc.cell? ⟨gb283, 2, none⟩ = some (.int .u64 a0_2) := (qa2 BK283.out 2).trans rfl
          have hcz17_3 : wc.cell? ⟨gb283, 3, none⟩ = some (.int .u64 a0_3) := (qa2 BK283.out 3).trans rfl
          have hcz17_4 : wc.cell? ⟨gb283, 4, none⟩ = some (.int .u64 a0_4) := (qa2 BK283.out 4).trans rfl
          have hcz17_5 : wc.cell? ⟨gb283, 5, none⟩ = some (.int .i64 a0_5) := (qa2 BK283.out 5).trans rfl
          have hcz17_6 : wc.cell? ⟨gb283, 6, none⟩ = some (.int .i64 a0_6) := (qa2 BK283.out 6).trans rfl
          have hcz17_7 : wc.cell? ⟨gb283, 7, none⟩ = some (.int .i64 a0_7) := (qa2 BK283.out 7).trans rfl
          have hcz17_8 : wc.cell? ⟨gb283, 8, none⟩ = some (.slice A0_8 l0_8.length c0_8) := (qa2 BK283.out 8).trans rfl
          have hfz17_0 := qa1 BK283.out 0
          have hfz17_1 := qa1 BK283.out 1
          have hfz17_2 := qa1 BK283.out 2
          have hfz17_3 := qa1 BK283.out 3
          have hfz17_4 := qa1 BK283.out 4
          have hfz17_5 := qa1 BK283.out 5
          have hfz17_6 := qa1 BK283.out 6
          have hfz17_7 := qa1 BK283.out 7
          have hfz17_8 := qa1 BK283.out 8
          go_wp2
          go_ret
          exact ⟨by first | rfl | (simp only [wrap_wrap]; done) | (simp only [wrap_wrap]; rfl) | (simp [qah, qai] <;> rfl) | (simp [*, qah, qai] <;> rfl), by repeat (first | (with_reducible first | exact HB.out | apply qa6 | apply qa7 | apply qa8 | refine qa9 ?_ GE283.out) | exact HB.out)⟩
       ·rw [if_neg c12] at H
        have c12b0 : (a0_0 == 5) = false := beq_eq_false_iff_ne.mpr c12
        have c12b1 : (a0_0 != 5) = true := bne_iff_ne.mpr c12
        obtain rfl := Option.some.inj H
        go_wp2
        go_ret
        exact ⟨by first | rfl | (simp only [wrap_wrap]; done) | (simp only [wrap_wrap]; rfl) | (simp [qah, qai] <;> rfl) | (simp [*, qah, qai] <;> rfl), by repeat (first | (with_reducible first | exact HB.out | apply qa6 | apply qa7 | apply qa8 | refine qa9 ?_ GE283.out) | exact HB.out)⟩
end Go.Proofs.Ytcmipoicnonaeaa.F
end
section
namespace Go.Proofs.Ytcmipoicnonaeaa.F
open Go.RowKit Go.Proofs.YtcmipoicnonaeaaW.PrintWords Go.Proofs.YtcmipoicnonaeaaW.PrintLast Go.Proofs.YtcmipoicnonaeaaW.PrintMore
attribute [local go_sem] qbs qbr qc7 qc0 qbh qbj qbp qbq
set_option linter.unusedVariables false
set_option linter.unusedSimpArgs false
noncomputable def qbo.f (k : Nat) (a0 : ByteArray) : Option (Bool) := (qbn.f k).bind fun t286 => (if t286 = true then ((qbw.f k a0).bind fun bt287 => (if bt287.2.2.2.2.2.2.2.2.2.1 = 0 then ((qc8.f k bt287.1 bt287.2.1 bt287.2.2.1 bt287.2.2.2.1 bt287.2.2.2.2.1 bt287.2.2.2.2.2.1 bt287.2.2.2.2.2.2.1 bt287.2.2.2.2.2.2.2.1 bt287.2.2.2.2.2.2.2.2.1 0 false false false false false false false false false false).bind fun bt302 => (if bt302.2.2.2.2.2.2.2.2.2.2.2 = true then (if bt287.1 = 0 then (if bt287.2.2.2.2.2.2.2.2.2.2 = 0 then ((qao.f k bt287.1 bt287.2.1 bt287.2.2.1 bt287.2.2.2.1 bt287.2.2.2.2.1 bt287.2.2.2.2.2.1 bt287.2.2.2.2.2.2.1 bt287.2.2.2.2.2.2.2.1 bt287.2.2.2.2.2.2.2.2.1).bind fun t315 => (some (decide (t315 ≤ 256)))) else (some false)) else (some false)) else (some false))) else (if bt287.2.2.2.2.2.2.2.2.2.2 ≥ 0 then (if bt287.2.2.2.2.2.2.2.2.2.2 ≤ (a0.size : Int) then ((qad.f k bt287.1 bt287.2.1 bt287.2.2.1 bt287.2.2.2.1 bt287.2.2.2.2.1 bt287.2.2.2.2.2.1 bt287.2.2.2.2.2.2.1 bt287.2.2.2.2.2.2.2.1 bt287.2.2.2.2.2.2.2.2.1 0 0 0 0 0 0 0 0 ([] : List (S27))).bind fun t316 => (some t316)) else (some false)) else (some false)))) else (some false))
set_option maxHeartbeats 8000000 in
set_option maxRecDepth 100000 in
theorem qbo.calls (k : Nat) (a0 : ByteArray) (r : Bool) (w : World) (hMD : ML w) (h : qbo.f k a0 = some r) (hr : r = true := by rfl) :
  Calls Try.prog 4 #[.string a0] w fun e w' => e = .returned (.bool r) ∧ Below w.heap.size w w' := by
 subst hr
 have HMD := qa0.mk hMD
 clear hMD
 have hu27 := Try.underlying27
 have hu30 := Try.underlying30
 have hu38 := Try.underlying38
 have HB := qa0.mk (Below.refl w.heap.size w)
 have H : ((qbn.f k).bind fun t286 => (if t286 = true then ((qbw.f k a0).bind fun bt287 => (if bt287.2.2.2.2.2.2.2.2.2.1 = 0 then ((qc8.f k bt287.1 bt287.2.1 bt287.2.2.1 bt287.2.2.2.1 bt287.2.2.2.2.1 bt287.2.2.2.2.2.1 bt287.2.2.2.2.2.2.1 bt287.2.2.2.2.2.2.2.1 bt287.2.2.2.2.2.2.2.2.1 0 false false false false false false false false false false).bind fun bt302 => (if bt302.2.2.2.2.2.2.2.2.2.2.2 = true then (if bt287.1 = 0 then (if bt287.2.2.2.2.2.2.2.2.2.2 = 0 then ((qao.f k bt287.1 bt287.2.1 bt287.2.2.1 bt287.2.2.2.1 bt287.2.2.2.2.1 bt287.2.2.2.2.2.1 bt287.2.2.2.2.2.2.1 bt287.2.2.2.2.2.2.2.1 bt287.2.2.2.2.2.2.2.2.1).bind fun t315 => (some (decide (t315 ≤ 256)))) else (some false)) else (some false)) else (some false))) else (if bt287.2.2.2.2.2.2.2.2.2.2 ≥ 0 then (if bt287.2.2.2.2.2.2.2.2.2.2 ≤ (a0.size : Int) then ((qad.f k bt287.1 bt287.2.1 bt287.2.2.1 bt287.2.2.2.1 bt287.2.2.2.2.1 bt287.2.2.2.2.2.1 bt287.2.2.2.2.2.2.1 bt287.2.2.2.2.2.2.2.1 bt287.2.2.2.2.2.2.2.2.1 0 0 0 0 0 0 0 0 ([] : List (S27))).bind fun t316 => (some t316)) else (some false)) else (some false)))) else (some false))) = some true := h
 clear h
 replace H := Option.bind_eq_some_iff.mp H
 obtain ⟨t286, A20, H⟩ := H
 replace H : (if t286 = true then ((qbw.f k a0).bind fun bt287 => (if bt287.2.2.2.2.2.2.2.2.2.1 = 0 then ((qc8.f k bt287.1 bt287.2.1 bt287.2.2.1 bt287.2.2.2.1 bt287.2.2.2.2.1 bt287.2.2.2.2.2.1 bt287.2.2.2.2.2.2.1 bt287.2.2.2.2.2.2.2.1 bt287.2.2.2.2.2.2.2.2.1 0 false false false false false false false false false false).bind fun bt302 => (if bt302.2.2.2.2.2.2.2.2.2.2.2 = true then (if bt287.1 = 0 then (if bt287.2.2.2.2.2.2.2.2.2.2 = 0 then ((qao.f k bt287.1 bt287.2.1 bt287.2.2.1 bt287.2.2.2.1 bt287.2.2.2.2.1 bt287.2.2.2.2.2.1 bt287.2.2.2.2.2.2.1 bt287.2.2.2.2.2.2.2.1 bt287.2.2.2.2.2.2.2.2.1).bind fun t315 => (some (decide (t315 ≤ 256)))) else (some false)) else (some false)) else (some false))) else (if bt287.2.2.2.2.2.2.2.2.2.2 ≥ 0 then (if bt287.2.2.2.2.2.2.2.2.2.2 ≤ (a0.size : Int) then ((qad.f k bt287.1 bt287.2.1 bt287.2.2.1 bt287.2.2.2.1 bt287.2.2.2.2.1 bt287.2.2.2.2.2.1 bt287.2.2.2.2.2.2.1 bt287.2.2.2.2.2.2.2.1 bt287.2.2.2.2.2.2.2.2.1 0 0 0 0 0 0 0 0 ([] : List (S27))).bind fun t316 => (some t316)) else (some false)) else (some false)))) else (some false)) = some true := H
 have A2 := qa0.mk A20
 clear A20
 by_cases c3 : t286 = true
 ·subst c3
  have H1 : ((qbw.f k a0).bind fun bt287 => (if bt287.2.2.2.2.2.2.2.2.2.1 = 0 then ((qc8.f k bt287.1 bt287.2.1 bt287.2.2.1 bt287.2.2.2.1 bt287.2.2.2.2.1 bt287.2.2.2.2.2.1 bt287.2.2.2.2.2.2.1 bt287.2.2.2.2.2.2.2.1 bt287.2.2.2.2.2.2.2.2.1 0 false false false false false false false false false false).bind fun bt302 => (if bt302.2.2.2.2.2.2.2.2.2.2.2 = true then (if bt287.1 = 0 then (if bt287.2.2.2.2.2.2.2.2.2.2 = 0 then ((qao.f k bt287.1 bt287.2.1 bt287.2.2.1 bt287.2.2.2.1 bt287.2.2.2.2.1 bt287.2.2.2.2.2.1 bt287.2.2.2.2.2.2.1 bt287.2.2.2.2.2.2.2.1 bt287.2.2.2.2.2.2.2.2.1).bind fun t315 => (some (decide (t315 ≤ 256)))) else (some false)) else (some false)) else (some false))) else (if bt287.2.2.2.2.2.2.2.2.2.2 ≥ 0 then (if bt287.2.2.2.2.2.2.2.2.2.2 ≤ (a0.size : Int) then ((qad.f k bt287.1 bt287.2.1 bt287.2.2.1 bt287.2.2.2.1 bt287.2.2.2.2.1 bt287.2.2.2.2.2.1 bt287.2.2.2.2.2.2.1 bt287.2.2.2.2.2.2.2.1 bt287.2.2.2.2.2.2.2.2.1 0 0 0 0 0 0 0 0 ([] : List (S27))).bind fun t316 => (some t316)) else (some false)) else (some false)))) = some true := by rw [if_pos rfl] at H; exact H
  clear H
  have H := H1
  clear H1
  replace H := Option.bind_eq_some_iff.mp H
  obtain ⟨⟨t287, t288, t289, t290, t291, t292, t293, t294, t295, t298, t299⟩, A40, H⟩ := H
  replace H : (if t298 = 0 then ((qc8.f k t287 t288 t289 t290 t291 t292 t293 t294 t295 0 false false false false false false false false false false).bind fun bt302 => (if bt302.2.2.2.2.2.2.2.2.2.2.2 = true then (if t287 = 0 then (if t299 = 0 then ((qao.f k t287 t288 t289 t290 t291 t292 t293 t294 t295).bind fun t315 => (some (decide (t315 ≤ 256)))) else (some false)) else (some false)) else (some false))) else (if t299 ≥ 0 then (if t299 ≤ (a0.size : Int) then ((qad.f k t287 t288 t289 t290 t291 t292 t293 t294 t295 0 0 0 0 0 0 0 0 ([] : List (S27))).bind fun t316 => (some t316)) else (some false)) else (some false))) = some true := H
  have A4 := qa0.mk A40
  clear A40
  by_cases c5 : t298 = 0
  ·rw [if_pos c5] at H
   have c5b0 : (t298 == 0) = true := beq_iff_eq.mpr c5
   have c5b1 : (t298 != 0) = false := bne_eq_false_iff_eq.mpr c5
   clear c5
   replace H := Option.bind_eq_some_iff.mp H
   obtain ⟨⟨t302, t303, t304, t305, t306, t307, t308, t309, t310, t311, t312, t313⟩, A60, H⟩ := H
   replace H : (if t313 = true then (if t287 = 0 then (if t299 = 0 then ((qao.f k t287 t288 t289 t290 t291 t292 t293 t294 t295).bind fun t315 => (some (decide (t315 ≤ 256)))) else (some false)) else (some false)) else (some false)) = some true := H
   have A6 := qa0.mk A60
   clear A60
   by_cases c7 : t313 = true
   ·subst c7
    have H1 : (if t287 = 0 then (if t299 = 0 then ((qao.f k t287 t288 t289 t290 t291 t292 t293 t294 t295).bind fun t315 => (some (decide (t315 ≤ 256)))) else (some false)) else (some false)) = some true := by rw [if_pos rfl] at H; exact H
    clear H
    have H := H1
    clear H1
    by_cases c8 : t287 = 0
    ·rw [if_pos c8] at H
     have c8b0 : (t287 == 0) = true := beq_iff_eq.mpr c8
     have c8b1 : (t287 != 0) = false := bne_eq_false_iff_eq.mpr c8
     clear c8
     by_cases c9 : t299 = 0
     ·rw [if_pos c9] at H
      have c9b0 : (t299 == 0) = true := beq_iff_eq.mpr c9
      have c9b1 : (t299 != 0) = false := bne_eq_false_iff_eq.mpr c9
      clear c9
      replace H := Option.bind_eq_some_iff.mp H
      obtain ⟨t315, A100, H⟩ := H
      replace H : (some (decide (t315 ≤ 256))) = some true := H
      have A10 := qa0.mk A100
      clear A100
      have hr_ := qa0.mk (Option.some.inj H)
      go_enter Try.func4, Try.ntmps4
      go_wp2_with (first | ((with_reducible refine qbc (f := 14) rfl ?_); refine qcc (some 8) rfl rfl Try.func14 (by kernel_rfl) rfl #[] rfl (by (try simp only [List.map_toArray, List.map_cons, List.map_nil]); first | done | rfl | (simp only [List.length_drop, List.length_take]; rfl)) ?_; (with_reducible refine (qbn.calls k  true _ ?hmd A2.out).mono ?_); (case hmd => exact (HMD.out.below (by repeat (first | (with_reducible first | exact HB.out | apply qa6 | apply qa7 | apply qa8) | exact HB.out)))); rintro e w11 ⟨rfl, hb⟩; refine ⟨_, rfl, ?_⟩; have n0_ := qa0.mk (qap (by repeat (first | (with_reducible first | exact HB.out | apply qa6 | apply qa7 | apply qa8) | exact HB.out)) hb); clear HB; have HB := n0_; clear n0_; (try clear hb); (try clear hb2); (try clear hk); (try clear hi)) | ((with_reducible refine qbc (f := 12) rfl ?_); refine qcc (some 12) rfl rfl Try.func12 (by kernel_rfl) rfl #[.string a0] rfl (by (try simp only [List.map_toArray, List.map_cons, List.map_nil]); first | done | rfl | (simp only [List.length_drop, List.length_take]; rfl)) ?_; (with_reducible refine (qbw.calls k a0 t287 t288 t289 t290 t291 t292 t293 t294 t295 t298 t299 _ ?hmd A4.out).mono ?_); (case hmd => exact (HMD.out.below (by repeat (first | (with_reducible first | exact HB.out | apply qa6 | apply qa7 | apply qa8) | exact HB.out)))); rintro e w12 ⟨v296, rfl, ho0, hb⟩; refine ⟨_, rfl, ?_⟩; have n0_ := qa0.mk (Kd.qev ho0 (qaq (by repeat (first | (with_reducible first | exact HB.out | apply qa6 | apply qa7 | apply qa8) | exact HB.out)))); have n1_ := qa0.mk (qap (by repeat (first | (with_reducible first | exact HB.out | apply qa6 | apply qa7 | apply qa8) | exact HB.out)) hb); clear HB; have HO297 := n0_; have HB := n1_; clear n0_ n1_; (try clear hb); (try clear hb2); (try clear hk); (try clear hi); (try clear ho0)) | ((with_reducible refine qb7 (N := 3) rfl ?_); (try (refine qcd (by rfl) ?_; dsimp only)); refine qbb ?hg (N := 3) ?hd (cs := #[.int .i64 0, .int .u64 0, .int .u64 0, .int .u64 0, .int .u64 0, .int .i64 0, .int .i64 0, .int .i64 0, .slice none 0 0]) (t := 27) ?hr ?_; (case hd => rfl); (case hg => rfl); (case hr => first | (go_simp; done) | (go_simp; rfl)); intro gb300 hg w13 hbox hb; have n0_ := qa0.mk (Kd.qbg (Kd.qfj (by (with_reducible repeat (first | apply Kd.qch | apply Kd.qcg | apply Kd.qcj)); exact HO297.out) gb300 (Nat.le_of_eq hg.symm)) hb); have n1_ := qa0.mk (qap (by repeat (first | (with_reducible first | exact HB.out | apply qa6 | apply qa7 | apply qa8) | exact HB.out)) hb); have n2_ := qa0.mk (hbox); have n3_ := qa0.mk ((by rw [hg]; exact (qaq (by repeat (first | (with_reducible first | exact HB.out | apply qa6 | apply qa7 | apply qa8) | exact HB.out))) : w.heap.size ≤ gb300)); have n4_ := qa0.mk ((by rw [hg]; exact (qaq (by repeat (first | (with_reducible first | exact HB.out | apply qa6 | apply qa7 | apply qa8) | exact HB.out))) : w.heap.size ≤ gb300)); clear HO297; clear HB; have HO297 := n0_; have HB := n1_; have BK300 := n2_; have GW300 := n3_; have GE300 := n4_; clear n0_ n1_ n2_ n3_ n4_; clear hb hbox hg) | ((with_reducible refine qb7 (N := 4) rfl ?_); (try (refine qcd (by rfl) ?_; dsimp only)); refine qbb ?hg (N := 4) ?hd (cs := #[.int .i64 0, .int .i64 0]) (t := 30) ?hr ?_; (case hd => rfl); (case hg => rfl); (case hr => first | (go_simp; done) | (go_simp; rfl)); intro gb301 hg w14 hbox hb; have n0_ := qa0.mk (Kd.qbg (by (with_reducible repeat (first | apply Kd.qch | apply Kd.qcg | apply Kd.qcj)); exact HO297.out) hb); have n1_ := qa0.mk (qae (g := gb300) (o := .cells #[.int .i64 0, .int .u64 0, .int .u64 0, .int .u64 0, .int .u64 0, .int .i64 0, .int .i64 0, .int .i64 0, .slice none 0 0] 27 (0, 0)) (by (with_reducible repeat (first | refine qa4 ?_ _ | refine qa5 ?_ | refine qa3 ?_ _)); exact BK300.out) hb); have n2_ := qa0.mk (qap (by repeat (first | (with_reducible first | exact HB.out | apply qa6 | apply qa7 | apply qa8 | refine qa9 ?_ GE300.out) | exact HB.out)) hb); have n3_ := qa0.mk (hbox); have n4_ := qa0.mk ((by rw [hg]; exact (qaq (by repeat (first | (with_reducible first | exact HB.out | apply qa6 | apply qa7 | apply qa8 | refine qa9 ?_ GE300.out) | exact HB.out))) : w.heap.size ≤ gb301)); have n5_ := qa0.mk ((by rw [hg]; exact (qaq (by repeat (first | (with_reducible first | exact HB.out | apply qa6 | apply qa7 | apply qa8 | refine qa9 ?_ GE300.out) | exact HB.out))) : w.heap.size ≤ gb301)); have n6_ := qa0.mk ((by rw [hg]; exact Nat.ne_of_lt (qam (g := gb300) (o := .cells #[.int .i64 0, .int .u64 0, .int .u64 0, .int .u64 0, .int .u64 0, .int .i64 0, .int .i64 0, .int .i64 0, .slice none 0 0] 27 (0, 0)) (by (with_reducible repeat (first | refine qa4 ?_ _ | refine qa5 ?_ | refine qa3 ?_ _)); exact BK300.out)) : gb300 ≠ gb301)); have n7_ := qa0.mk ((by rw [hg]; exact Nat.ne_of_gt (qam (g := gb300) (o := .cells #[.int .i64 0, .int .u64 0, .int .u64 0, .int .u64 0, .int .u64 0, .int .i64 0, .int .i64 0, .int .i64 0, .slice none 0 0] 27 (0, 0)) (by (with_reducible repeat (first | refine qa4 ?_ _ | refine qa5 ?_ | refine qa3 ?_ _)); exact BK300.out)) : gb301 ≠ gb300)); clear HO297; clear BK300; clear HB; have HO297 := n0_; have BK300 := n1_; have HB := n2_; have BK301 := n3_; have GW301 := n4_; have GE301 := n5_; have NB300_301 := n6_; have NB301_300 := n7_; clear n0_ n1_ n2_ n3_ n4_ n5_ n6_ n7_; clear hb hbox hg; have hnb15 := NB300_301.out; have hnc15 := NB301_300.out; have hcz16_0 : w14.cell? ⟨gb300, 0, none⟩ = some (.int .i64 0) := (qa2 BK300.out 0).trans rfl; have hcz16_1 : w14.cell? ⟨gb300, 1, none⟩ = some (.int .u64 0) := (qa2 BK300.out 1).trans rfl; have hcz16_2 : w14.cell? ⟨gb300, 2, none⟩ = some (.int .u64 0) := (qa2 BK300.out 2).trans rfl; have hcz16_3 : w14.cell? ⟨gb300, 3, none⟩ = some (.int .u64 0) := (qa2 BK300.out 3).trans rfl; have hcz16_4 : w14.cell? ⟨gb300, 4, none⟩ = some (.int .u64 0) := (qa2 BK300.out 4).trans rfl; have hcz16_5 : w14.cell? ⟨gb300, 5, none⟩ = some (.int .i64 0) := (qa2 BK300.out 5).trans rfl; have hcz16_6 : w14.cell? ⟨gb300, 6, none⟩ = some (.int .i64 0) := (qa2 BK300.out 6).trans rfl; have hcz16_7 : w14.cell? ⟨gb300, 7, none⟩ = some (.int .i64 0) := (qa2 BK300.out 7).trans rfl; have hcz16_8 : w14.cell? ⟨gb300, 8, none⟩ = some (.slice none 0 0) := (qa2 BK300.out 8).trans rfl; have hfz16_0 := qa1 BK300.out 0; have hfz16_1 := qa1 BK300.out 1; have hfz16_2 := qa1 BK300.out 2; have hfz16_3 := qa1 BK300.out 3; have hfz16_4 := qa1 BK300.out 4; have hfz16_5 := qa1 BK300.out 5; have hfz16_6 := qa1 BK300.out 6; have hfz16_7 := qa1 BK300.out 7; have hfz16_8 := qa1 BK300.out 8; obtain ⟨Ao17, co17, eo17⟩ := Kd.qdb HO297.out; subst eo17; have hcz18_0 : w14.cell? ⟨gb301, 0, none⟩ = some (.int .i64 0) := (qa2 BK301.out 0).trans rfl; have hcz18_1 : w14.cell? ⟨gb301, 1, none⟩ = some (.int .i64 0) := (qa2 BK301.out 1).trans rfl; have hfz18_0 := qa1 BK301.out 0; have hfz18_1 := qa1 BK301.out 1) | ((with_reducible refine qbc (f := 16) rfl ?_); refine qcc (some 36) rfl rfl Try.func16 (by kernel_rfl) rfl #[.agg #[.int .i64 t287, .int .u64 t288, .int .u64 t289, .int .u64 t290, .int .u64 t291, .int .i64 t292, .int .i64 t293, .int .i64 t294, .slice Ao17 t295.length co17], .int .i64 0, .agg #[.bool false, .bool false, .bool false, .bool false, .bool false, .bool false, .bool false, .bool false, .bool false, .bool false]] rfl (by (try simp only [List.map_toArray, List.map_cons, List.map_nil]); first | done | rfl | (simp only [List.length_drop, List.length_take]; rfl)) ?_; (with_reducible refine (qc8.calls k t287 t288 t289 t290 t291 t292 t293 t294 _ _ t295 0 false false false false false false false false false false t302 t303 t304 t305 t306 t307 t308 t309 t310 t311 t312 true _ ?side1 ?side2 A6.out).mono ?_); (case side1 => refine (Kd.qd2 (e := 27) (base := w.heap.size) (ok := fun k_ => (True ∧ k_ ≠ gb300)) (n := t295.length) (c := co17) ?_).2.2; exact (by (with_reducible repeat (first | apply Kd.qch | apply Kd.qcg | apply Kd.qcj)); exact (Kd.qbd (Kd.qbd (Kd.qaw (p := ⟨gb301, 1, none⟩) (Kd.qaw (p := ⟨gb301, 0, none⟩) (Kd.qaw (p := ⟨gb300, 8, none⟩) (Kd.qaw (p := ⟨gb300, 7, none⟩) (Kd.qaw (p := ⟨gb300, 6, none⟩) (Kd.qaw (p := ⟨gb300, 5, none⟩) (Kd.qaw (p := ⟨gb300, 4, none⟩) (Kd.qaw (p := ⟨gb300, 3, none⟩) (Kd.qaw (p := ⟨gb300, 2, none⟩) (Kd.qaw (p := ⟨gb300, 1, none⟩) (Kd.qaw (p := ⟨gb300, 0, none⟩) (Kd.qdg (Kd.qbd HO297.out (fun k_ hk => (⟨hk, hk.2⟩ : _ ∧ k_ ≠ gb300))) BK301.out (by decide)) (fun _ hk => hk.1.2) (.int .i64 t287)) (fun _ hk => hk.1.2) (.int .u64 t288)) (fun _ hk => hk.1.2) (.int .u64 t289)) (fun _ hk => hk.1.2) (.int .u64 t290)) (fun _ hk => hk.1.2) (.int .u64 t291)) (fun _ hk => hk.1.2) (.int .i64 t292)) (fun _ hk => hk.1.2) (.int .i64 t293)) (fun _ hk => hk.1.2) (.int .i64 t294)) (fun _ hk => hk.1.2) (.slice Ao17 t295.length co17)) (fun _ hk => hk.2) (.int .i64 t298)) (fun _ hk => hk.2) (.int .i64 t299)) (fun _ h_ => h_.1)) (fun _ h_ => h_.1)))); (case side2 => exact (Kd.qd2 HO297.out).2.1); rintro e w19 ⟨rfl, hb⟩; refine ⟨_, rfl, ?_⟩; have n0_ := qa0.mk (Kd.qbg (by (with_reducible repeat (first | apply Kd.qch | apply Kd.qcg | apply Kd.qcj)); exact (Kd.qbd (Kd.qbd (Kd.qaw (p := ⟨gb301, 1, none⟩) (Kd.qaw (p := ⟨gb301, 0, none⟩) (Kd.qaw (p := ⟨gb300, 8, none⟩) (Kd.qaw (p := ⟨gb300, 7, none⟩) (Kd.qaw (p := ⟨gb300, 6, none⟩) (Kd.qaw (p := ⟨gb300, 5, none⟩) (Kd.qaw (p := ⟨gb300, 4, none⟩) (Kd.qaw (p := ⟨gb300, 3, none⟩) (Kd.qaw (p := ⟨gb300, 2, none⟩) (Kd.qaw (p := ⟨gb300, 1, none⟩) (Kd.qaw (p := ⟨gb300, 0, none⟩) (Kd.qdg (Kd.qbd HO297.out (fun k_ hk => (⟨hk, hk.2⟩ : _ ∧ k_ ≠ gb300))) BK301.out (by decide)) (fun _ hk => hk.1.2) (.int .i64 t287)) (fun _ hk => hk.1.2) (.int .u64 t288)) (fun _ hk => hk.1.2) (.int .u64 t289)) (fun _ hk => hk.1.2) (.int .u64 t290)) (fun _ hk => hk.1.2) (.int .u64 t291)) (fun _ hk => hk.1.2) (.int .i64 t292)) (fun _ hk => hk.1.2) (.int .i64 t293)) (fun _ hk => hk.1.2) (.int .i64 t294)) (fun _ hk => hk.1.2) (.slice Ao17 t295.length co17)) (fun _ hk => hk.2) (.int .i64 t298)) (fun _ hk => hk.2) (.int .i64 t299)) (fun _ h_ => h_.1)) (fun _ h_ => h_.1))) hb); have n1_ := qa0.mk (qae (g := gb300) (o := .cells #[.int .i64 t287, .int .u64 t288, .int .u64 t289, .int .u64 t290, .int .u64 t291, .int .i64 t292, .int .i64 t293, .int .i64 t294, .slice Ao17 t295.length co17] 27 (0, 0)) (by (with_reducible repeat (first | refine qa4 ?_ _ | refine qa5 ?_ | refine qa3 ?_ _)); refine qaj ?_ NB300_301.out _; (with_reducible repeat (first | refine qa4 ?_ _ | refine qa5 ?_ | refine qa3 ?_ _)); refine qaj ?_ NB300_301.out _; (with_reducible repeat (first | refine qa4 ?_ _ | refine qa5 ?_ | refine qa3 ?_ _)); refine qaa (cs := #[.int .i64 t287, .int .u64 t288, .int .u64 t289, .int .u64 t290, .int .u64 t291, .int .i64 t292, .int .i64 t293, .int .i64 t294, .slice none 0 0]) ?_ 8 _ rfl; (with_reducible repeat (first | refine qa4 ?_ _ | refine qa5 ?_ | refine qa3 ?_ _)); refine qaa (cs := #[.int .i64 t287, .int .u64 t288, .int .u64 t289, .int .u64 t290, .int .u64 t291, .int .i64 t292, .int .i64 t293, .int .i64 0, .slice none 0 0]) ?_ 7 _ rfl; (with_reducible repeat (first | refine qa4 ?_ _ | refine qa5 ?_ | refine qa3 ?_ _)); refine qaa (cs := #[.int .i64 t287, .int .u64 t288, .int .u64 t289, .int .u64 t290, .int .u64 t291, .int .i64 t292, .int .i64 0, .int .i64 0, .slice none 0 0]) ?_ 6 _ rfl; (with_reducible repeat (first | refine qa4 ?_ _ | refine qa5 ?_ | refine qa3 ?_ _)); refine qaa (cs := #[.int .i64 t287, .int .u64 t288, .int .u64 t289, .int .u64 t290, .int .u64 t291, .int .i64 0, .int .i64 0, .int .i64 0, .slice none 0 0]) ?_ 5 _ rfl; (with_reducible repeat (first | refine qa4 ?_ _ | refine qa5 ?_ | refine qa3 ?_ _)); refine qaa (cs := #[.int .i64 t287, .int .u64 t288, .int .u64 t289, .int .u64 t290, .int .u64 0, .int .i64 0, .int .i64 0, .int .i64 0, .slice none 0 0]) ?_ 4 _ rfl; (with_reducible repeat (first | refine qa4 ?_ _ | refine qa5 ?_ | refine qa3 ?_ _)); refine qaa (cs := #[.int .i64 t287, .int .u64 t288, .int .u64 t289, .int .u64 0, .int .u64 0, .int .i64 0, .int .i64 0, .int .i64 0, .slice none 0 0]) ?_ 3 _ rfl; (with_reducible repeat (first | refine qa4 ?_ _ | refine qa5 ?_ | refine qa3 ?_ _)); refine qaa (cs := #[.int .i64 t287, .int .u64 t288, .int .u64 0, .int .u64 0, .int .u64 0, .int .i64 0, .int .i64 0, .int .i64 0, .slice none 0 0]) ?_ 2 _ rfl; (with_reducible repeat (first | refine qa4 ?_ _ | refine qa5 ?_ | refine qa3 ?_ _)); refine qaa (cs := #[.int .i64 t287, .int .u64 0, .int .u64 0, .int .u64 0, .int .u64 0, .int .i64 0, .int .i64 0, .int .i64 0, .slice none 0 0]) ?_ 1 _ rfl; (with_reducible repeat (first | refine qa4 ?_ _ | refine qa5 ?_ | refine qa3 ?_ _)); refine qaa (cs := #[.int .i64 0, .int .u64 0, .int .u64 0, .int .u64 0, .int .u64 0, .int .i64 0, .int .i64 0, .int .i64 0, .slice none 0 0]) ?_ 0 _ rfl; (with_reducible repeat (first | refine qa4 ?_ _ | refine qa5 ?_ | refine qa3 ?_ _)); exact BK300.out) hb); have n2_ := qa0.mk (qae (g := gb301) (o := .cells #[.int .i64 t298, .int .i64 t299] 30 (0, 0)) (by (with_reducible repeat (first | refine qa4 ?_ _ | refine qa5 ?_ | refine qa3 ?_ _)); refine qaa (cs := #[.int .i64 t298, .int .i64 0]) ?_ 1 _ rfl; (with_reducible repeat (first | refine qa4 ?_ _ | refine qa5 ?_ | refine qa3 ?_ _)); refine qaa (cs := #[.int .i64 0, .int .i64 0]) ?_ 0 _ rfl; (with_reducible repeat (first | refine qa4 ?_ _ | refine qa5 ?_ | refine qa3 ?_ _)); refine qaj ?_ NB301_300.out _; (with_reducible repeat (first | refine qa4 ?_ _ | refine qa5 ?_ | refine qa3 ?_ _)); refine qaj ?_ NB301_300.out _; (with_reducible repeat (first | refine qa4 ?_ _ | refine qa5 ?_ | refine qa3 ?_ _)); refine qaj ?_ NB301_300.out _; (with_reducible repeat (first | refine qa4 ?_ _ | refine qa5 ?_ | refine qa3 ?_ _)); refine qaj ?_ NB301_300.out _; (with_reducible repeat (first | refine qa4 ?_ _ | refine qa5 ?_ | refine qa3 ?_ _)); refine qaj ?_ NB301_300.out _; (with_reducible repeat (first | refine qa4 ?_ _ | refine qa5 ?_ | refine qa3 ?_ _)); refine qaj ?_ NB301_300.out _; (with_reducible repeat (first | refine qa4 ?_ _ | refine qa5 ?_ | refine qa3 ?_ _)); refine qaj ?_ NB301_300.out _; (with_reducible repeat (first | refine qa4 ?_ _ | refine qa5 ?_ | refine qa3 ?_ _)); refine qaj ?_ NB301_300.out _; (with_reducible repeat (first | refine qa4 ?_ _ | refine qa5 ?_ | refine qa3 ?_ _)); refine qaj ?_ NB301_300.out _; (with_reducible repeat (first | refine qa4 ?_ _ | refine qa5 ?_ | refine qa3 ?_ _)); exact BK301.out) hb); have n3_ := qa0.mk (qap (by repeat (first | (with_reducible first | exact HB.out | apply qa6 | apply qa7 | apply qa8 | refine qa9 ?_ GE300.out | refine qa9 ?_ GE301.out) | exact HB.out)) hb); clear HO297; clear BK300; clear BK301; clear HB; have HO297 := n0_; have BK300 := n1_; have BK301 := n2_; have HB := n3_; clear n0_ n1_ n2_ n3_; (try clear hb); (try clear hb2); (try clear hk); (try clear hi)) | ((with_reducible refine qb7 (N := 6) rfl ?_); (try (refine qcd (by rfl) ?_; dsimp only)); refine qbb ?hg (N := 6) ?hd (cs := #[.bool false, .bool false, .bool false, .bool false, .bool false, .bool false, .bool false, .bool false, .bool false, .bool false]) (t := 38) ?hr ?_; (case hd => rfl); (case hg => rfl); (case hr => first | (go_simp; done) | (go_simp; rfl)); intro gb314 hg w20 hbox hb; have n0_ := qa0.mk (Kd.qbg (by (with_reducible repeat (first | apply Kd.qch | apply Kd.qcg | apply Kd.qcj)); exact HO297.out) hb); have n1_ := qa0.mk (qae (g := gb300) (o := .cells #[.int .i64 t287, .int .u64 t288, .int .u64 t289, .int .u64 t290, .int .u64 t291, .int .i64 t292, .int .i64 t293, .int .i64 t294, .slice Ao17 t295.length co17] 27 (0, 0)) (by (with_reducible repeat (first | refine qa4 ?_ _ | refine qa5 ?_ | refine qa3 ?_ _)); exact BK300.out) hb); have n2_ := qa0.mk (qae (g := gb301) (o := .cells #[.int .i64 t298, .int .i64 t299] 30 (0, 0)) (by (with_reducible repeat (first | refine qa4 ?_ _ | refine qa5 ?_ | refine qa3 ?_ _)); exact BK301.out) hb); have n3_ := qa0.mk (qap (by repeat (first | (with_reducible first | exact HB.out | apply qa6 | apply qa7 | apply qa8 | refine qa9 ?_ GE300.out | refine qa9 ?_ GE301.out) | exact HB.out)) hb); have n4_ := qa0.mk (hbox); have n5_ := qa0.mk ((by rw [hg]; exact (qaq (by repeat (first | (with_reducible first | exact HB.out | apply qa6 | apply qa7 | apply qa8 | refine qa9 ?_ GE300.out | refine qa9 ?_ GE301.out) | exact HB.out))) : w.heap.size ≤ gb314)); have n6_ := qa0.mk ((by rw [hg]; exact (qaq (by repeat (first | (with_reducible first | exact HB.out | apply qa6 | apply qa7 | apply qa8 | refine qa9 ?_ GE300.out | refine qa9 ?_ GE301.out) | exact HB.out))) : w.heap.size ≤ gb314)); have n7_ := qa0.mk ((by rw [hg]; exact Nat.ne_of_lt (qam (g := gb300) (o := .cells #[.int .i64 t287, .int .u64 t288, .int .u64 t289, .int .u64 t290, .int .u64 t291, .int .i64 t292, .int .i64 t293, .int .i64 t294, .slice Ao17 t295.length co17] 27 (0, 0)) (by (with_reducible repeat (first | refine qa4 ?_ _ | refine qa5 ?_ | refine qa3 ?_ _)); exact BK300.out)) : gb300 ≠ gb314)); have n8_ := qa0.mk ((by rw [hg]; exact Nat.ne_of_gt (qam (g := gb300) (o := .cells #[.int .i64 t287, .int .u64 t288, .int .u64 t289, .int .u64 t290, .int .u64 t291, .int .i64 t292, .int .i64 t293, .int .i64 t294, .slice Ao17 t295.length co17] 27 (0, 0)) (by (with_reducible repeat (first | refine qa4 ?_ _ | refine qa5 ?_ | refine qa3 ?_ _)); exact BK300.out)) : gb314 ≠ gb300)); have n9_ := qa0.mk ((by rw [hg]; exact Nat.ne_of_lt (qam (g := gb301) (o := .cells #[.int .i64 t298, .int .i64 t299] 30 (0, 0)) (by (with_reducible repeat (first | refine qa4 ?_ _ | refine qa5 ?_ | refine qa3 ?_ _)); exact BK301.out)) : gb301 ≠ gb314)); have n10_ := qa0.mk ((by rw [hg]; exact Nat.ne_of_gt (qam (g := gb301) (o := .cells #[.int .i64 t298, .int .i64 t299] 30 (0, 0)) (by (with_reducible repeat (first | refine qa4 ?_ _ | refine qa5 ?_ | refine qa3 ?_ _)); exact BK301.out)) : gb314 ≠ gb301)); clear HO297; clear BK300; clear BK301; clear HB; have HO297 := n0_; have BK300 := n1_; have BK301 := n2_; have HB := n3_; have BK314 := n4_; have GW314 := n5_; have GE314 := n6_; have NB300_314 := n7_; have NB314_300 := n8_; have NB301_314 := n9_; have NB314_301 := n10_; clear n0_ n1_ n2_ n3_ n4_ n5_ n6_ n7_ n8_ n9_ n10_; clear hb hbox hg; have hnb21 := NB314_300.out; have hnc21 := NB300_314.out; have hnb22 := NB314_301.out; have hnc22 := NB301_314.out; have hcz23_0 : w20.cell? ⟨gb314, 0, none⟩ = some (.bool false) := (qa2 BK314.out 0).trans rfl; have hcz23_1 : w20.cell? ⟨gb314, 1, none⟩ = some (.bool false) := (qa2 BK314.out 1).trans rfl; have hcz23_2 : w20.cell? ⟨gb314, 2, none⟩ = some (.bool false) := (qa2 BK314.out 2).trans rfl; have hcz23_3 : w20.cell? ⟨gb314, 3, none⟩ = some (.bool false) := (qa2 BK314.out 3).trans rfl; have hcz23_4 : w20.cell? ⟨gb314, 4, none⟩ = some (.bool false) := (qa2 BK314.out 4).trans rfl; have hcz23_5 : w20.cell? ⟨gb314, 5, none⟩ = some (.bool false) := (qa2 BK314.out 5).trans rfl; have hcz23_6 : w20.cell? ⟨gb314, 6, none⟩ = some (.bool false) := (qa2 BK314.out 6).trans rfl; have hcz23_7 : w20.cell? ⟨gb314, 7, none⟩ = some (.bool false) := (qa2 BK314.out 7).trans rfl; have hcz23_8 : w20.cell? ⟨gb314, 8, none⟩ = some (.bool false) := (qa2 BK314.out 8).trans rfl; have hcz23_9 : w20.cell? ⟨gb314, 9, none⟩ = some (.bool false) := (qa2 BK314.out 9).trans rfl; have hfz23_0 := qa1 BK314.out 0; have hfz23_1 := qa1 BK314.out 1; have hfz23_2 := qa1 BK314.out 2; have hfz23_3 := qa1 BK314.out 3; have hfz23_4 := qa1 BK314.out 4; have hfz23_5 := qa1 BK314.out 5; have hfz23_6 := qa1 BK314.out 6; have hfz23_7 := qa1 BK314.out 7; have hfz23_8 := qa1 BK314.out 8; have hfz23_9 := qa1 BK314.out 9; have hcz24_0 : w20.cell? ⟨gb300, 0, none⟩ = some (.int .i64 t287) := (qa2 BK300.out 0).trans rfl; have hcz24_1 : w20.cell? ⟨gb300, 1, none⟩ = some (.int .u64 t288) := (qa2 BK300.out 1).trans rfl; have hcz24_2 : w20.cell? ⟨gb300, 2, none⟩ = some (.int .u64 t289) := (qa2 BK300.out 2).trans rfl; have hcz24_3 : w20.cell? ⟨gb300, 3, none⟩ = some (.int .u64 t290) := (qa2 BK300.out 3).trans rfl; have hcz24_4 : w20.cell? ⟨gb300, 4, none⟩ = some (.int .u64 t291) := (qa2 BK300.out 4).trans rfl; have hcz24_5 : w20.cell? ⟨gb300, 5, none⟩ = some (.int .i64 t292) := (qa2 BK300.out 5).trans rfl; have hcz24_6 : w20.cell? ⟨gb300, 6, none⟩ = some (.int .i64 t293) := (qa2 BK300.out 6).trans rfl; have hcz24_7 : w20.cell? ⟨gb300, 7, none⟩ = some (.int .i64 t294) := (qa2 BK300.out 7).trans rfl; have hcz24_8 : w20.cell? ⟨gb300, 8, none⟩ = some (.slice Ao17 t295.length co17) := (qa2 BK300.out 8).trans rfl; have hfz24_0 := qa1 BK300.out 0; have hfz24_1 := qa1 BK300.out 1; have hfz24_2 := qa1 BK300.out 2; have hfz24_3 := qa1 BK300.out 3; have hfz24_4 := qa1 BK300.out 4; have hfz24_5 := qa1 BK300.out 5; have hfz24_6 := qa1 BK300.out 6; have hfz24_7 := qa1 BK300.out 7; have hfz24_8 := qa1 BK300.out 8; have hcz25_0 : w20.cell? ⟨gb301, 0, none⟩ = some (.int .i64 t298) := (qa2 BK301.out 0).trans rfl; have hcz25_1 : w20.cell? ⟨gb301, 1, none⟩ = some (.int .i64 t299) := (qa2 BK301.out 1).trans rfl; have hfz25_0 := qa1 BK301.out 0; have hfz25_1 := qa1 BK301.out 1) | (go_at_call 17; (with_reducible refine (qao.calls k t287 t288 t289 t290 t291 t292 t293 t294 _ _ t295 t315 _ ?side1 ?side2 A10.out).mono ?_); (case side1 => refine (Kd.qd2 (e := 27) (base := w.heap.size) (ok := fun k_ => (True ∧ k_ ≠ gb300)) (n := t295.length) (c := co17) ?_).2.2; exact (by (with_reducible repeat (first | apply Kd.qch | apply Kd.qcg | apply Kd.qcj)); exact (Kd.qbd (Kd.qaw (p := ⟨gb314, 9, none⟩) (Kd.qaw (p := ⟨gb314, 8, none⟩) (Kd.qaw (p := ⟨gb314, 7, none⟩) (Kd.qaw (p := ⟨gb314, 6, none⟩) (Kd.qaw (p := ⟨gb314, 5, none⟩) (Kd.qaw (p := ⟨gb314, 4, none⟩) (Kd.qaw (p := ⟨gb314, 3, none⟩) (Kd.qaw (p := ⟨gb314, 2, none⟩) (Kd.qaw (p := ⟨gb314, 1, none⟩) (Kd.qaw (p := ⟨gb314, 0, none⟩) (Kd.qdg HO297.out BK314.out (by decide)) (fun _ hk => hk.2) (.bool t303)) (fun _ hk => hk.2) (.bool t304)) (fun _ hk => hk.2) (.bool t305)) (fun _ hk => hk.2) (.bool t306)) (fun _ hk => hk.2) (.bool t307)) (fun _ hk => hk.2) (.bool t308)) (fun _ hk => hk.2) (.bool t309)) (fun _ hk => hk.2) (.bool t310)) (fun _ hk => hk.2) (.bool t311)) (fun _ hk => hk.2) (.bool t312)) (fun _ h_ => h_.1)))); (case side2 => exact (Kd.qd2 HO297.out).2.1); rintro e w26 ⟨rfl, hb⟩; have n0_ := qa0.mk (Kd.qbg (by (with_reducible repeat (first | apply Kd.qch | apply Kd.qcg | apply Kd.qcj)); exact (Kd.qbd (Kd.qaw (p := ⟨gb314, 9, none⟩) (Kd.qaw (p := ⟨gb314, 8, none⟩) (Kd.qaw (p := ⟨gb314, 7, none⟩) (Kd.qaw (p := ⟨gb314, 6, none⟩) (Kd.qaw (p := ⟨gb314, 5, none⟩) (Kd.qaw (p := ⟨gb314, 4, none⟩) (Kd.qaw (p := ⟨gb314, 3, none⟩) (Kd.qaw (p := ⟨gb314, 2, none⟩) (Kd.qaw (p := ⟨gb314, 1, none⟩) (Kd.qaw (p := ⟨gb314, 0, none⟩) (Kd.qdg HO297.out BK314.out (by decide)) (fun _ hk => hk.2) (.bool t303)) (fun _ hk => hk.2) (.bool t304)) (fun _ hk => hk.2) (.bool t305)) (fun _ hk => hk.2) (.bool t306)) (fun _ hk => hk.2) (.bool t307)) (fun _ hk => hk.2) (.bool t308)) (fun _ hk => hk.2) (.bool t309)) (fun _ hk => hk.2) (.bool t310)) (fun _ hk => hk.2) (.bool t311)) (fun _ hk => hk.2) (.bool t312)) (fun _ h_ => h_.1))) hb); have n1_ := qa0.mk (qae (g := gb300) (o := .cells #[.int .i64 t287, .int .u64 t288, .int .u64 t289, .int .u64 t290, .int .u64 t291, .int .i64 t292, .int .i64 t293, .int .i64 t294, .slice Ao17 t295.length co17] 27 (0, 0)) (by (with_reducible repeat (first | refine qa4 ?_ _ | refine qa5 ?_ | refine qa3 ?_ _)); refine qaj ?_ NB300_314.out _; (with_reducible repeat (first | refine qa4 ?_ _ | refine qa5 ?_ | refine qa3 ?_ _)); refine qaj ?_ NB300_314.out _; (with_reducible repeat (first | refine qa4 ?_ _ | refine qa5 ?_ | refine qa3 ?_ _)); refine qaj ?_ NB300_314.out _; (with_reducible repeat (first | refine qa4 ?_ _ | refine qa5 ?_ | refine qa3 ?_ _)); refine qaj ?_ NB300_314.out _; (with_reducible repeat (first | refine qa4 ?_ _ | refine qa5 ?_ | refine qa3 ?_ _)); refine qaj ?_ NB300_314.out _; (with_reducible repeat (first | refine qa4 ?_ _ | refine qa5 ?_ | refine qa3 ?_ _)); refine qaj ?_ NB300_314.out _; (with_reducible repeat (first | refine qa4 ?_ _ | refine qa5 ?_ | refine qa3 ?_ _)); refine qaj ?_ NB300_314.out _; (with_reducible repeat (first | refine qa4 ?_ _ | refine qa5 ?_ | refine qa3 ?_ _)); refine qaj ?_ NB300_314.out _; (with_reducible repeat (first | refine qa4 ?_ _ | refine qa5 ?_ | refine qa3 ?_ _)); refine qaj ?_ NB300_314.out _; (with_reducible repeat (first | refine qa4 ?_ _ | refine qa5 ?_ | refine qa3 ?_ _)); refine qaj ?_ NB300_314.out _; (with_reducible repeat (first | refine qa4 ?_ _ | refine qa5 ?_ | refine qa3 ?_ _)); exact BK300.out) hb); have n2_ := qa0.mk (qae (g := gb301) (o := .cells #[.int .i64 t298, .int .i64 t299] 30 (0, 0)) (by (with_reducible repeat (first | refine qa4 ?_ _ | refine qa5 ?_ | refine qa3 ?_ _)); refine qaj ?_ NB301_314.out _; (with_reducible repeat (first | refine qa4 ?_ _ | refine qa5 ?_ | refine qa3 ?_ _)); refine qaj ?_ NB301_314.out _; (with_reducible repeat (first | refine qa4 ?_ _ | refine qa5 ?_ | refine qa3 ?_ _)); refine qaj ?_ NB301_314.out _; (with_reducible repeat (first | refine qa4 ?_ _ | refine qa5 ?_ | refine qa3 ?_ _)); refine qaj ?_ NB301_314.out _; (with_reducible repeat (first | refine qa4 ?_ _ | refine qa5 ?_ | refine qa3 ?_ _)); refine qaj ?_ NB301_314.out _; (with_reducible repeat (first | refine qa4 ?_ _ | refine qa5 ?_ | refine qa3 ?_ _)); refine qaj ?_ NB301_314.out _; (with_reducible repeat (first | refine qa4 ?_ _ | refine qa5 ?_ | refine qa3 ?_ _)); refine qaj ?_ NB301_314.out _; (with_reducible repeat (first | refine qa4 ?_ _ | refine qa5 ?_ | refine qa3 ?_ _)); refine qaj ?_ NB301_314.out _; (with_reducible repeat (first | refine qa4 ?_ _ | refine qa5 ?_ | refine qa3 ?_ _)); refine qaj ?_ NB301_314.out _; (with_reducible repeat (first | refine qa4 ?_ _ | refine qa5 ?_ | refine qa3 ?_ _)); refine qaj ?_ NB301_314.out _; (with_reducible repeat (first | refine qa4 ?_ _ | refine qa5 ?_ | refine qa3 ?_ _)); exact BK301.out) hb); have n3_ := qa0.mk (qae (g := gb314) (o := .cells #[.bool t303, .bool t304, .bool t305, .bool t306, .bool t307, .bool t308, .bool t309, .bool t310, .bool t311, .bool t312] 38 (0, 0)) (by (with_reducible repeat (first | refine qa4 ?_ _ | refine qa5 ?_ | refine qa3 ?_ _)); refine qaa (cs := #[.bool t303, .bool t304, .bool t305, .bool t306, .bool t307, .bool t308, .bool t309, .bool t310, .bool t311, .bool false]) ?_ 9 _ rfl; (with_reducible repeat (first | refine qa4 ?_ _ | refine qa5 ?_ | refine qa3 ?_ _)); refine qaa (cs := #[.bool t303, .bool t304, .bool t305, .bool t306, .bool t307, .bool t308, .bool t309, .bool t310, .bool false, .bool false]) ?_ 8 _ rfl; (with_reducible repeat (first | refine qa4 ?_ _ | refine qa5 ?_ | refine qa3 ?_ _)); refine qaa (cs := #[.bool t303, .bool t304, .bool t305, .bool t306, .bool t307, .bool t308, .bool t309, .bool false, .bool false, .bool false]) ?_ 7 _ rfl; (with_reducible repeat (first | refine qa4 ?_ _ | refine qa5 ?_ | refine qa3 ?_ _)); refine qaa (cs := #[.bool t303, .bool t304, .bool t305, .bool t306, .bool t307, .bool t308, .bool false, .bool false, .bool false, .bool false]) ?_ 6 _ rfl; (with_reducible repeat (first | refine qa4 ?_ _ | refine qa5 ?_ | refine qa3 ?_ _)); refine qaa (cs := #[.bool t303, .bool t304, .bool t305, .bool t306, .bool t307, .bool false, .bool false, .bool false, .bool false, .bool false]) ?_ 5 _ rfl; (with_reducible repeat (first | refine qa4 ?_ _ | refine qa5 ?_ | refine qa3 ?_ _)); refine qaa (cs := #[.bool t303, .bool t304, .bool t305, .bool t306, .bool false, .bool false, .bool false, .bool false, .bool false, .bool false]) ?_ 4 _ rfl; (with_reducible repeat (first | refine qa4 ?_ _ | refine qa5 ?_ | refine qa3 ?_ _)); refine qaa (cs := #[.bool t303, .bool t304, .bool t305, .bool false, .bool false, .bool false, .bool false, .bool false, .bool false, .bool false]) ?_ 3 _ rfl; (with_reducible repeat (first | refine qa4 ?_ _ | refine qa5 ?_ | refine qa3 ?_ _)); refine qaa (cs := #[.bool t303, .bool t304, .bool false, .bool false, .bool false, .bool false, .bool false, .bool false, .bool false, .bool false]) ?_ 2 _ rfl; (with_reducible repeat (first | refine qa4 ?_ _ | refine qa5 ?_ | refine qa3 ?_ _)); refine qaa (cs := #[.bool t303, .bool false, .bool false, .bool false, .bool false, .bool false, .bool false, .bool false, .bool false, .bool false]) ?_ 1 _ rfl; (with_reducible repeat (first | refine qa4 ?_ _ | refine qa5 ?_ | refine qa3 ?_ _)); refine qaa (cs := #[.bool false, .bool false, .bool false, .bool false, .bool false, .bool false, .bool false, .bool false, .bool false, .bool false]) ?_ 0 _ rfl; (with_reducible repeat (first | refine qa4 ?_ _ | refine qa5 ?_ | refine qa3 ?_ _)); exact BK314.out) hb); have n4_ := qa0.mk (qap (by repeat (first | (with_reducible first | exact HB.out | apply qa6 | apply qa7 | apply qa8 | refine qa9 ?_ GE300.out | refine qa9 ?_ GE301.out | refine qa9 ?_ GE314.out) | exact HB.out)) hb); clear HO297; clear BK300; clear BK301; clear BK314; clear HB; have HO297 := n0_; have BK300 := n1_; have BK301 := n2_; have BK314 := n3_; have HB := n4_; clear n0_ n1_ n2_ n3_ n4_; (try clear hb); (try clear hb2); (try clear hk); (try clear hi)))
      go_ret
      have hr2_ := hr_.out
      exact ⟨by first | rfl | (simp only [wrap_wrap]; done) | (simp only [wrap_wrap]; rfl) | (simp [qah, qai] <;> rfl) | (simp [*, qah, qai] <;> rfl), by repeat (first | (with_reducible first | exact HB.out | apply qa6 | apply qa7 | apply qa8 | refine qa9 ?_ GE300.out | refine qa9 ?_ GE301.out | refine qa9 ?_ GE314.out) | exact HB.out)⟩
     ·rw [if_neg c9] at H
      have c9b0 : (t299 == 0) = false := beq_eq_false_iff_ne.mpr c9
      have c9b1 : (t299 != 0) = true := bne_iff_ne.mpr c9
      cases Option.some.inj H
    ·rw [if_neg c8] at H
     have c8b0 : (t287 == 0) = false := beq_eq_false_iff_ne.mpr c8
     have c8b1 : (t287 != 0) = true := bne_iff_ne.mpr c8
     cases Option.some.inj H
   ·replace c7 := Bool.eq_false_iff.mpr c7
    subst c7
    have H1 : (some false) = some true := by rw [if_neg (show ¬ (false = true) by decide)] at H; exact H
    clear H
    have H := H1
    clear H1
    cases Option.some.inj H
  ·rw [if_neg c5] at H
   have c5b0 : (t298 == 0) = false := beq_eq_false_iff_ne.mpr c5
   have c5b1 : (t298 != 0) = true := bne_iff_ne.mpr c5
   by_cases c69 : t299 ≥ 0
   ·rw [if_pos c69] at H
    have c69b0 : decide (0 ≤ t299) = true := decide_eq_true c69
    clear c69
    by_cases c70 : t299 ≤ (a0.size : Int)
    ·rw [if_pos c70] at H
     have c70b0 : decide (t299 ≤ (a0.size : Int)) = true := decide_eq_true c70
     clear c70
     replace H := Option.bind_eq_some_iff.mp H
     obtain ⟨t316, A710, H⟩ := H
     replace H : (some t316) = some true := H
     have A71 := qa0.mk A710
     clear A710
     obtain rfl : t316 = true := Option.some.inj H
     go_enter Try.func4, Try.ntmps4
     go_wp2_with (first | ((with_reducible refine qbc (f := 14) rfl ?_); refine qcc (some 8) rfl rfl Try.func14 (by kernel_rfl) rfl #[] rfl (by (try simp only [List.map_toArray, List.map_cons, List.map_nil]); first | done | rfl | (simp only [List.length_drop, List.length_take]; rfl)) ?_; (with_reducible refine (qbn.calls k  true _ ?hmd A2.out).mono ?_); (case hmd => exact (HMD.out.below (by repeat (first | (with_reducible first | exact HB.out | apply qa6 | apply qa7 | apply qa8) | exact HB.out)))); rintro e w72 ⟨rfl, hb⟩; refine ⟨_, rfl, ?_⟩; have n0_ := qa0.mk (qap (by repeat (first | (with_reducible first | exact HB.out | apply qa6 | apply qa7 | apply qa8) | exact HB.out)) hb); clear HB; have HB := n0_; clear n0_; (try clear hb); (try clear hb2); (try clear hk); (try clear hi)) | ((with_reducible refine qbc (f := 12) rfl ?_); refine qcc (some 12) rfl rfl Try.func12 (by kernel_rfl) rfl #[.string a0] rfl (by (try simp only [List.map_toArray, List.map_cons, List.map_nil]); first | done | rfl | (simp only [List.length_drop, List.length_take]; rfl)) ?_; (with_reducible refine (qbw.calls k a0 t287 t288 t289 t290 t291 t292 t293 t294 t295 t298 t299 _ ?hmd A4.out).mono ?_); (case hmd => exact (HMD.out.below (by repeat (first | (with_reducible first | exact HB.out | apply qa6 | apply qa7 | apply qa8) | exact HB.out)))); rintro e w73 ⟨v296, rfl, ho0, hb⟩; refine ⟨_, rfl, ?_⟩; have n0_ := qa0.mk (Kd.qev ho0 (qaq (by repeat (first | (with_reducible first | exact HB.out | apply qa6 | apply qa7 | apply qa8) | exact HB.out)))); have n1_ := qa0.mk (qap (by repeat (first | (with_reducible first | exact HB.out | apply qa6 | apply qa7 | apply qa8) | exact HB.out)) hb); clear HB; have HO297 := n0_; have HB := n1_; clear n0_ n1_; (try clear hb); (try clear hb2); (try clear hk); (try clear hi); (try clear ho0)) | ((with_reducible refine qb7 (N := 3) rfl ?_); (try (refine qcd (by rfl) ?_; dsimp only)); refine qbb ?hg (N := 3) ?hd (cs := #[.int .i64 0, .int .u64 0, .int .u64 0, .int .u64 0, .int .u64 0, .int .i64 0, .int .i64 0, .int .i64 0, .slice none 0 0]) (t := 27) ?hr ?_; (case hd => rfl); (case hg => rfl); (case hr => first | (go_simp; done) | (go_simp; rfl)); intro gb300 hg w74 hbox hb; have n0_ := qa0.mk (Kd.qbg (Kd.qfj (by (with_reducible repeat (first | apply Kd.qch | apply Kd.qcg | apply Kd.qcj)); exact HO297.out) gb300 (Nat.le_of_eq hg.symm)) hb); have n1_ := qa0.mk (qap (by repeat (first | (with_reducible first | exact HB.out | apply qa6 | apply qa7 | apply qa8) | exact HB.out)) hb); have n2_ := qa0.mk (hbox); have n3_ := qa0.mk ((by rw [hg]; exact (qaq (by repeat (first | (with_reducible first | exact HB.out | apply qa6 | apply qa7 | apply qa8) | exact HB.out))) : w.heap.size ≤ gb300)); have n4_ := qa0.mk ((by rw [hg]; exact (qaq (by repeat (first | (with_reducible first | exact HB.out | apply qa6 | apply qa7 | apply qa8) | exact HB.out))) : w.heap.size ≤ gb300)); clear HO297; clear HB; have HO297 := n0_; have HB := n1_; have BK300 := n2_; have GW300 := n3_; have GE300 := n4_; clear n0_ n1_ n2_ n3_ n4_; clear hb hbox hg) | ((with_reducible refine qb7 (N := 4) rfl ?_); (try (refine qcd (by rfl) ?_; dsimp only)); refine qbb ?hg (N := 4) ?hd (cs := #[.int .i64 0, .int .i64 0]) (t := 30) ?hr ?_; (case hd => rfl); (case hg => rfl); (case hr => first | (go_simp; done) | (go_simp; rfl)); intro gb301 hg w75 hbox hb; have n0_ := qa0.mk (Kd.qbg (by (with_reducible repeat (first | apply Kd.qch | apply Kd.qcg | apply Kd.qcj)); exact HO297.out) hb); have n1_ := qa0.mk (qae (g := gb300) (o := .cells #[.int .i64 0, .int .u64 0, .int .u64 0, .int .u64 0, .int .u64 0, .int .i64 0, .int .i64 0, .int .i64 0, .slice none 0 0] 27 (0, 0)) (by (with_reducible repeat (first | refine qa4 ?_ _ | refine qa5 ?_ | refine qa3 ?_ _)); exact BK300.out) hb); have n2_ := qa0.mk (qap (by repeat (first | (with_reducible first | exact HB.out | apply qa6 | apply qa7 | apply qa8 | refine qa9 ?_ GE300.out) | exact HB.out)) hb); have n3_ := qa0.mk (hbox); have n4_ := qa0.mk ((by rw [hg]; exact (qaq (by repeat (first | (with_reducible first | exact HB.out | apply qa6 | apply qa7 | apply qa8 | refine qa9 ?_ GE300.out) | exact HB.out))) : w.heap.size ≤ gb301)); have n5_ := qa0.mk ((by rw [hg]; exact (qaq (by repeat (first | (with_reducible first | exact HB.out | apply qa6 | apply qa7 | apply qa8 | refine qa9 ?_ GE300.out) | exact HB.out))) : w.heap.size ≤ gb301)); have n6_ := qa0.mk ((by rw [hg]; exact Nat.ne_of_lt (qam (g := gb300) (o := .cells #[.int .i64 0, .int .u64 0, .int .u64 0, .int .u64 0, .int .u64 0, .int .i64 0, .int .i64 0, .int .i64 0, .slice none 0 0] 27 (0, 0)) (by (with_reducible repeat (first | refine qa4 ?_ _ | refine qa5 ?_ | refine qa3 ?_ _)); exact BK300.out)) : gb300 ≠ gb301)); have n7_ := qa0.mk ((by rw [hg]; exact Nat.ne_of_gt (qam (g := gb300) (o := .cells #[.int .i64 0, .int .u64 0, .int .u64 0, .int .u64 0, .int .u64 0, .int .i64 0, .int .i64 0, .int .i64 0, .slice none 0 0] 27 (0, 0)) (by (with_reducible repeat (first | refine qa4 ?_ _ | refine qa5 ?_ | refine qa3 ?_ _)); exact BK300.out)) : gb301 ≠ gb300)); clear HO297; clear BK300; clear HB; have HO297 := n0_; have BK300 := n1_; have HB := n2_; have BK301 := n3_; have GW301 := n4_; have GE301 := n5_; have NB300_301 := n6_; have NB301_300 := n7_; clear n0_ n1_ n2_ n3_ n4_ n5_ n6_ n7_; clear hb hbox hg; have hnb76 := NB300_301.out; have hnc76 := NB301_300.out; have hcz77_0 : w75.cell? ⟨gb300, 0, none⟩ = some (.int .i64 0) := (qa2 BK300.out 0).trans rfl; have hcz77_1 : w75.cell? ⟨gb300, 1, none⟩ = some (.int .u64 0) := (qa2 BK300.out 1).trans rfl; have hcz77_2 : w75.cell? ⟨gb300, 2, none⟩ = some (.int .u64 0) := (qa2 BK300.out 2).trans rfl; have hcz77_3 : w75.cell? ⟨gb300, 3, none⟩ = some (.int .u64 0) := (qa2 BK300.out 3).trans rfl; have hcz77_4 : w75.cell? ⟨gb300, 4, none⟩ = some (.int .u64 0) := (qa2 BK300.out 4).trans rfl; have hcz77_5 : w75.cell? ⟨gb300, 5, none⟩ = some (.int .i64 0) := (qa2 BK300.out 5).trans rfl; have hcz77_6 : w75.cell? ⟨gb300, 6, none⟩ = some (.int .i64 0) := (qa2 BK300.out 6).trans rfl; have hcz77_7 : w75.cell? ⟨gb300, 7, none⟩ = some (.int .i64 0) := (qa2 BK300.out 7).trans rfl; have hcz77_8 : w75.cell? ⟨gb300, 8, none⟩ = some (.slice none 0 0) := (qa2 BK300.out 8).trans rfl; have hfz77_0 := qa1 BK300.out 0; have hfz77_1 := qa1 BK300.out 1; have hfz77_2 := qa1 BK300.out 2; have hfz77_3 := qa1 BK300.out 3; have hfz77_4 := qa1 BK300.out 4; have hfz77_5 := qa1 BK300.out 5; have hfz77_6 := qa1 BK300.out 6; have hfz77_7 := qa1 BK300.out 7; have hfz77_8 := qa1 BK300.out 8; obtain ⟨Ao78, co78, eo78⟩ := Kd.qdb HO297.out; subst eo78; have hcz79_0 : w75.cell? ⟨gb301, 0, none⟩ = some (.int .i64 0) := (qa2 BK301.out 0).trans rfl; have hcz79_1 : w75.cell? ⟨gb301, 1, none⟩ = some (.int .i64 0) := (qa2 BK301.out 1).trans rfl; have hfz79_0 := qa1 BK301.out 0; have hfz79_1 := qa1 BK301.out 1) | (go_at_call 15; (refine (qad.calls k t287 t288 t289 t290 t291 t292 t293 t294 _ _ t295 0 0 0 0 0 0 0 0 _ _ ([] : List (S27)) true _ ?side1 ?side2 ?side3 ?side4 A71.out).mono ?_); (case side1 => refine (Kd.qd2 (e := 27) (base := w.heap.size) (ok := fun k_ => (True ∧ k_ ≠ gb300)) (n := t295.length) (c := co78) ?_).2.2; exact (by (with_reducible repeat (first | apply Kd.qch | apply Kd.qcg | apply Kd.qcj)); exact (Kd.qbd (Kd.qbd (Kd.qaw (p := ⟨gb301, 1, none⟩) (Kd.qaw (p := ⟨gb301, 0, none⟩) (Kd.qaw (p := ⟨gb300, 8, none⟩) (Kd.qaw (p := ⟨gb300, 7, none⟩) (Kd.qaw (p := ⟨gb300, 6, none⟩) (Kd.qaw (p := ⟨gb300, 5, none⟩) (Kd.qaw (p := ⟨gb300, 4, none⟩) (Kd.qaw (p := ⟨gb300, 3, none⟩) (Kd.qaw (p := ⟨gb300, 2, none⟩) (Kd.qaw (p := ⟨gb300, 1, none⟩) (Kd.qaw (p := ⟨gb300, 0, none⟩) (Kd.qdg (Kd.qbd HO297.out (fun k_ hk => (⟨hk, hk.2⟩ : _ ∧ k_ ≠ gb300))) BK301.out (by decide)) (fun _ hk => hk.1.2) (.int .i64 t287)) (fun _ hk => hk.1.2) (.int .u64 t288)) (fun _ hk => hk.1.2) (.int .u64 t289)) (fun _ hk => hk.1.2) (.int .u64 t290)) (fun _ hk => hk.1.2) (.int .u64 t291)) (fun _ hk => hk.1.2) (.int .i64 t292)) (fun _ hk => hk.1.2) (.int .i64 t293)) (fun _ hk => hk.1.2) (.int .i64 t294)) (fun _ hk => hk.1.2) (.slice Ao78 t295.length co78)) (fun _ hk => hk.2) (.int .i64 t298)) (fun _ hk => hk.2) (.int .i64 t299)) (fun _ h_ => h_.1)) (fun _ h_ => h_.1)))); (case side2 => exact (Kd.qd2 HO297.out).2.1); (case side3 => exact Kd.C_nil _ _); (case side4 => exact Nat.le_refl _); rintro e w80 ⟨rfl, hb⟩; have n0_ := qa0.mk (Kd.qbg (by (with_reducible repeat (first | apply Kd.qch | apply Kd.qcg | apply Kd.qcj)); exact (Kd.qbd (Kd.qbd (Kd.qaw (p := ⟨gb301, 1, none⟩) (Kd.qaw (p := ⟨gb301, 0, none⟩) (Kd.qaw (p := ⟨gb300, 8, none⟩) (Kd.qaw (p := ⟨gb300, 7, none⟩) (Kd.qaw (p := ⟨gb300, 6, none⟩) (Kd.qaw (p := ⟨gb300, 5, none⟩) (Kd.qaw (p := ⟨gb300, 4, none⟩) (Kd.qaw (p := ⟨gb300, 3, none⟩) (Kd.qaw (p := ⟨gb300, 2, none⟩) (Kd.qaw (p := ⟨gb300, 1, none⟩) (Kd.qaw (p := ⟨gb300, 0, none⟩) (Kd.qdg (Kd.qbd HO297.out (fun k_ hk => (⟨hk, hk.2⟩ : _ ∧ k_ ≠ gb300))) BK301.out (by decide)) (fun _ hk => hk.1.2) (.int .i64 t287)) (fun _ hk => hk.1.2) (.int .u64 t288)) (fun _ hk => hk.1.2) (.int .u64 t289)) (fun _ hk => hk.1.2) (.int .u64 t290)) (fun _ hk => hk.1.2) (.int .u64 t291)) (fun _ hk => hk.1.2) (.int .i64 t292)) (fun _ hk => hk.1.2) (.int .i64 t293)) (fun _ hk => hk.1.2) (.int .i64 t294)) (fun _ hk => hk.1.2) (.slice Ao78 t295.length co78)) (fun _ hk => hk.2) (.int .i64 t298)) (fun _ hk => hk.2) (.int .i64 t299)) (fun _ h_ => h_.1)) (fun _ h_ => h_.1))) hb); have n1_ := qa0.mk (qae (g := gb300) (o := .cells #[.int .i64 t287, .int .u64 t288, .int .u64 t289, .int .u64 t290, .int .u64 t291, .int .i64 t292, .int .i64 t293, .int .i64 t294, .slice Ao78 t295.length co78] 27 (0, 0)) (by (with_reducible repeat (first | refine qa4 ?_ _ | refine qa5 ?_ | refine qa3 ?_ _)); refine qaj ?_ NB300_301.out _; (with_reducible repeat (first | refine qa4 ?_ _ | refine qa5 ?_ | refine qa3 ?_ _)); refine qaj ?_ NB300_301.out _; (with_reducible repeat (first | refine qa4 ?_ _ | refine qa5 ?_ | refine qa3 ?_ _)); refine qaa (cs := #[.int .i64 t287, .int .u64 t288, .int .u64 t289, .int .u64 t290, .int .u64 t291, .int .i64 t292, .int .i64 t293, .int .i64 t294, .slice none 0 0]) ?_ 8 _ rfl; (with_reducible repeat (first | refine qa4 ?_ _ | refine qa5 ?_ | refine qa3 ?_ _)); refine qaa (cs := #[.int .i64 t287, .int .u64 t288, .int .u64 t289, .int .u64 t290, .int .u64 t291, .int .i64 t292, .int .i64 t293, .int .i64 0, .slice none 0 0]) ?_ 7 _ rfl; (with_reducible repeat (first | refine qa4 ?_ _ | refine qa5 ?_ | refine qa3 ?_ _)); refine qaa (cs := #[.int .i64 t287, .int .u64 t288, .int .u64 t289, .int .u64 t290, .int .u64 t291, .int .i64 t292, .int .i64 0, .int .i64 0, .slice none 0 0]) ?_ 6 _ rfl; (with_reducible repeat (first | refine qa4 ?_ _ | refine qa5 ?_ | refine qa3 ?_ _)); refine qaa (cs := #[.int .i64 t287, .int .u64 t288, .int .u64 t289, .int .u64 t290, .int .u64 t291, .int .i64 0, .int .i64 0, .int .i64 0, .slice none 0 0]) ?_ 5 _ rfl; (with_reducible repeat (first | refine qa4 ?_ _ | refine qa5 ?_ | refine qa3 ?_ _)); refine qaa (cs := #[.int .i64 t287, .int .u64 t288, .int .u64 t289, .int .u64 t290, .int .u64 0, .int .i64 0, .int .i64 0, .int .i64 0, .slice none 0 0]) ?_ 4 _ rfl; (with_reducible repeat (first | refine qa4 ?_ _ | refine qa5 ?_ | refine qa3 ?_ _)); refine qaa (cs := #[.int .i64 t287, .int .u64 t288, .int .u64 t289, .int .u64 0, .int .u64 0, .int .i64 0, .int .i64 0, .int .i64 0, .slice none 0 0]) ?_ 3 _ rfl; (with_reducible repeat (first | refine qa4 ?_ _ | refine qa5 ?_ | refine qa3 ?_ _)); refine qaa (cs := #[.int .i64 t287, .int .u64 t288, .int .u64 0, .int .u64 0, .int .u64 0, .int .i64 0, .int .i64 0, .int .i64 0, .slice none 0 0]) ?_ 2 _ rfl; (with_reducible repeat (first | refine qa4 ?_ _ | refine qa5 ?_ | refine qa3 ?_ _)); refine qaa (cs := #[.int .i64 t287, .int .u64 0, .int .u64 0, .int .u64 0, .int .u64 0, .int .i64 0, .int .i64 0, .int .i64 0, .slice none 0 0]) ?_ 1 _ rfl; (with_reducible repeat (first | refine qa4 ?_ _ | refine qa5 ?_ | refine qa3 ?_ _)); refine qaa (cs := #[.int .i64 0, .int .u64 0, .int .u64 0, .int .u64 0, .int .u64 0, .int .i64 0, .int .i64 0, .int .i64 0, .slice none 0 0]) ?_ 0 _ rfl; (with_reducible repeat (first | refine qa4 ?_ _ | refine qa5 ?_ | refine qa3 ?_ _)); exact BK300.out) hb); have n2_ := qa0.mk (qae (g := gb301) (o := .cells #[.int .i64 t298, .int .i64 t299] 30 (0, 0)) (by (with_reducible repeat (first | refine qa4 ?_ _ | refine qa5 ?_ | refine qa3 ?_ _)); refine qaa (cs := #[.int .i64 t298, .int .i64 0]) ?_ 1 _ rfl; (with_reducible repeat (first | refine qa4 ?_ _ | refine qa5 ?_ | refine qa3 ?_ _)); refine qaa (cs := #[.int .i64 0, .int .i64 0]) ?_ 0 _ rfl; (with_reducible repeat (first | refine qa4 ?_ _ | refine qa5 ?_ | refine qa3 ?_ _)); refine qaj ?_ NB301_300.out _; (with_reducible repeat (first | refine qa4 ?_ _ | refine qa5 ?_ | refine qa3 ?_ _)); refine qaj ?_ NB301_300.out _; (with_reducible repeat (first | refine qa4 ?_ _ | refine qa5 ?_ | refine qa3 ?_ _)); refine qaj ?_ NB301_300.out _; (with_reducible repeat (first | refine qa4 ?_ _ | refine qa5 ?_ | refine qa3 ?_ _)); refine qaj ?_ NB301_300.out _; (with_reducible repeat (first | refine qa4 ?_ _ | refine qa5 ?_ | refine qa3 ?_ _)); refine qaj ?_ NB301_300.out _; (with_reducible repeat (first | refine qa4 ?_ _ | refine qa5 ?_ | refine qa3 ?_ _)); refine qaj ?_ NB301_300.out _; (with_reducible repeat (first | refine qa4 ?_ _ | refine qa5 ?_ | refine qa3 ?_ _)); refine qaj ?_ NB301_300.out _; (with_reducible repeat (first | refine qa4 ?_ _ | refine qa5 ?_ | refine qa3 ?_ _)); refine qaj ?_ NB301_300.out _; (with_reducible repeat (first | refine qa4 ?_ _ | refine qa5 ?_ | refine qa3 ?_ _)); refine qaj ?_ NB301_300.out _; (with_reducible repeat (first | refine qa4 ?_ _ | refine qa5 ?_ | refine qa3 ?_ _)); exact BK301.out) hb); have n3_ := qa0.mk (qap (by repeat (first | (with_reducible first | exact HB.out | apply qa6 | apply qa7 | apply qa8 | refine qa9 ?_ GE300.out | refine qa9 ?_ GE301.out) | exact HB.out)) hb); clear HO297; clear BK300; clear BK301; clear HB; have HO297 := n0_; have BK300 := n1_; have BK301 := n2_; have HB := n3_; clear n0_ n1_ n2_ n3_; (try clear hb); (try clear hb2); (try clear hk); (try clear hi)))
     go_ret
     exact ⟨by first | rfl | (simp only [wrap_wrap]; done) | (simp only [wrap_wrap]; rfl) | (simp [qah, qai] <;> rfl) | (simp [*, qah, qai] <;> rfl), by repeat (first | (with_reducible first | exact HB.out | apply qa6 | apply qa7 | apply qa8 | refine qa9 ?_ GE300.out | refine qa9 ?_ GE301.out) | exact HB.out)⟩
    ·rw [if_neg c70] at H
     have c70b0 : decide (t299 ≤ (a0.size : Int)) = false := decide_eq_false c70
     clear c70
     cases Option.some.inj H
   ·rw [if_neg c69] at H
    have c69b0 : decide (0 ≤ t299) = false := decide_eq_false c69
    clear c69
    cases Option.some.inj H
 ·replace c3 := Bool.eq_false_iff.mpr c3
  subst c3
  have H1 : (some false) = some true := by rw [if_neg (show ¬ (false = true) by decide)] at H; exact H
  clear H
  have H := H1
  clear H1
  cases Option.some.inj H
def qbo.Pure : Prop := ∀ (a0 : ByteArray), a0.size ≤ 140737488351232 → ∃ k, qbo.f k a0 = some true
theorem qbo.walk (P : qbo.Pure) (a0 : ByteArray) (w : World) (hMD : ML w) (w0 : a0.size ≤ 140737488351232) :
  Calls Try.prog 4 #[.string a0] w fun e w' => e = .returned (.bool true) ∧ Below w.heap.size w w' := by
 obtain ⟨k, h⟩ := P a0 w0
 refine (qbo.calls k a0 true w hMD h).mono ?_
 rintro e w' ⟨rfl, hd⟩
 exact ⟨rfl, hd⟩
end Go.Proofs.Ytcmipoicnonaeaa.F
end
