/- Texts of this claim, 23 of 29: F15. -/

import Derived.Test.YtcmipoicnonaeaaKS4
import Derived.Test.YtcmipoicnonaeaaKS22
section
namespace Go.Proofs.Ytcmipoicnonaeaa.F
open Go.RowKit Go.Proofs.YtcmipoicnonaeaaW.PrintWords Go.Proofs.YtcmipoicnonaeaaW.PrintLast Go.Proofs.YtcmipoicnonaeaaW.PrintMore
attribute [local go_sem] qbs qbr qc7 qc0 qbh qbj qbp qbq
set_option linter.unusedVariables false
set_option linter.unusedSimpArgs false
attribute [local go_sem high] eqA24
mutual
def qad.j0 : Nat → Bool → Int → Int → Int → Int → Int → Int → Int → Int → List (S27) → Int → Int → Int → Int → Int → Int → Int → Int → List (S27) → Option (Bool)
 | 0, _, _, _, _, _, _, _, _, _, _, _, _, _, _, _, _, _, _, _ => none
 | k + 1, x47, x279000, x279001, x279002, x279003, x279004, x279005, x279006, x279007, x279008, x280000, x280001, x280002, x280003, x280004, x280005, x280006, x280007, x280008 => if x47 = true then (some false) else (qad.l0 k 0 x279000 x279001 x279002 x279003 x279004 x279005 x279006 x279007 x279008 x280000 x280001 x280002 x280003 x280004 x280005 x280006 x280007 x280008)
def qad.l0 : Nat → Int → Int → Int → Int → Int → Int → Int → Int → Int → List (S27) → Int → Int → Int → Int → Int → Int → Int → Int → List (S27) → Option (Bool)
 | 0, _, _, _, _, _, _, _, _, _, _, _, _, _, _, _, _, _, _, _ => none
 | k + 1, x5, x279000, x279001, x279002, x279003, x279004, x279005, x279006, x279007, x279008, x280000, x280001, x280002, x280003, x280004, x280005, x280006, x280007, x280008 => if x5 < (x279008.length : Int) then (if 0 ≤ x5 then (if x5 < (x280008.length : Int) then ((qad.f k ((qag x279008 x5).f0) ((qag x279008 x5).f1.f0) ((qag x279008 x5).f1.f1) ((qag x279008 x5).f1.f2) ((qag x279008 x5).f1.f3) ((qag x279008 x5).f2) ((qag x279008 x5).f3) ((qag x279008 x5).f4) ((qag x279008 x5).f5) ((qag x280008 x5).f0) ((qag x280008 x5).f1.f0) ((qag x280008 x5).f1.f1) ((qag x280008 x5).f1.f2) ((qag x280008 x5).f1.f3) ((qag x280008 x5).f2) ((qag x280008 x5).f3) ((qag x280008 x5).f4) ((qag x280008 x5).f5)).bind fun t282 => (if t282 = true then (qad.l0 k (wrap64 (x5 + 1)) x279000 x279001 x279002 x279003 x279004 x279005 x279006 x279007 x279008 x280000 x280001 x280002 x280003 x280004 x280005 x280006 x280007 x280008) else (some false))) else (none)) else (none)) else (some true)
def qad.f : Nat → Int → Int → Int → Int → Int → Int → Int → Int → List (S27) → Int → Int → Int → Int → Int → Int → Int → Int → List (S27) → Option (Bool)
 | 0, _, _, _, _, _, _, _, _, _, _, _, _, _, _, _, _, _, _ => none
 | k + 1, a0_0, a0_1, a0_2, a0_3, a0_4, a0_5, a0_6, a0_7, l0_8, a1_0, a1_1, a1_2, a1_3, a1_4, a1_5, a1_6, a1_7, l1_8 => if a0_0 = a1_0 then (if (!(a0_1 == a1_1) || (!(a0_2 == a1_2) || (!(a0_3 == a1_3) || (!(a0_4 == a1_4))))) = true then (qad.j0 k true a0_0 a0_1 a0_2 a0_3 a0_4 a0_5 a0_6 a0_7 l0_8 a1_0 a1_1 a1_2 a1_3 a1_4 a1_5 a1_6 a1_7 l1_8) else (if a0_5 = a1_5 then (if a0_6 = a1_6 then (if a0_7 = a1_7 then (qad.j0 k ((l0_8.length : Int) != (l1_8.length : Int)) a0_0 a0_1 a0_2 a0_3 a0_4 a0_5 a0_6 a0_7 l0_8 a1_0 a1_1 a1_2 a1_3 a1_4 a1_5 a1_6 a1_7 l1_8) else (qad.j0 k true a0_0 a0_1 a0_2 a0_3 a0_4 a0_5 a0_6 a0_7 l0_8 a1_0 a1_1 a1_2 a1_3 a1_4 a1_5 a1_6 a1_7 l1_8)) else (qad.j0 k true a0_0 a0_1 a0_2 a0_3 a0_4 a0_5 a0_6 a0_7 l0_8 a1_0 a1_1 a1_2 a1_3 a1_4 a1_5 a1_6 a1_7 l1_8)) else (qad.j0 k true a0_0 a0_1 a0_2 a0_3 a0_4 a0_5 a0_6 a0_7 l0_8 a1_0 a1_1 a1_2 a1_3 a1_4 a1_5 a1_6 a1_7 l1_8))) else (qad.j0 k true a0_0 a0_1 a0_2 a0_3 a0_4 a0_5 a0_6 a0_7 l0_8 a1_0 a1_1 a1_2 a1_3 a1_4 a1_5 a1_6 a1_7 l1_8)
end
theorem qad.qcs : ∀ k, (∀ y0 y1 y2 y3 y4 y5 y6 y7 y8 y9 y10 y11 y12 y13 y14 y15 y16 y17, LeO (qad.f k y0 y1 y2 y3 y4 y5 y6 y7 y8 y9 y10 y11 y12 y13 y14 y15 y16 y17) (qad.f (k + 1) y0 y1 y2 y3 y4 y5 y6 y7 y8 y9 y10 y11 y12 y13 y14 y15 y16 y17)) ∧ (∀ y0 y1 y2 y3 y4 y5 y6 y7 y8 y9 y10 y11 y12 y13 y14 y15 y16 y17 y18, LeO (qad.j0 k y0 y1 y2 y3 y4 y5 y6 y7 y8 y9 y10 y11 y12 y13 y14 y15 y16 y17 y18) (qad.j0 (k + 1) y0 y1 y2 y3 y4 y5 y6 y7 y8 y9 y10 y11 y12 y13 y14 y15 y16 y17 y18)) ∧ (∀ y0 y1 y2 y3 y4 y5 y6 y7 y8 y9 y10 y11 y12 y13 y14 y15 y16 y17 y18, LeO (qad.l0 k y0 y1 y2 y3 y4 y5 y6 y7 y8 y9 y10 y11 y12 y13 y14 y15 y16 y17 y18) (qad.l0 (k + 1) y0 y1 y2 y3 y4 y5 y6 y7 y8 y9 y10 y11 y12 y13 y14 y15 y16 y17 y18))
 | 0 => ⟨fun _ _ _ _ _ _ _ _ _ _ _ _ _ _ _ _ _ _ r h => by simp [qad.f] at h, fun _ _ _ _ _ _ _ _ _ _ _ _ _ _ _ _ _ _ _ r h => by simp [qad.j0] at h, fun _ _ _ _ _ _ _ _ _ _ _ _ _ _ _ _ _ _ _ r h => by simp [qad.l0] at h⟩
 | k + 1 => by
  obtain ⟨ih0, ih1, ih2⟩ := qad.qcs k
  refine ⟨?_, ?_, ?_⟩
  ·intro y0 y1 y2 y3 y4 y5 y6 y7 y8 y9 y10 y11 y12 y13 y14 y15 y16 y17
   unfold qad.f
   repeat' first
   | (with_reducible exact ih0 _ _ _ _ _ _ _ _ _ _ _ _ _ _ _ _ _ _)
   | (with_reducible exact ih1 _ _ _ _ _ _ _ _ _ _ _ _ _ _ _ _ _ _ _)
   | (with_reducible exact ih2 _ _ _ _ _ _ _ _ _ _ _ _ _ _ _ _ _ _ _)
   | (with_reducible exact LeO.refl _)
   | (with_reducible exact LeO.none _)
   | (with_reducible refine LeO.ite ?_ ?_)
   | (with_reducible refine LeO.bind ?_ (fun _ => ?_))
   | exact ih0 _ _ _ _ _ _ _ _ _ _ _ _ _ _ _ _ _ _
   | exact ih1 _ _ _ _ _ _ _ _ _ _ _ _ _ _ _ _ _ _ _
   | exact ih2 _ _ _ _ _ _ _ _ _ _ _ _ _ _ _ _ _ _ _
   | exact LeO.none _
   | refine LeO.ite ?_ ?_
   | refine LeO.bind ?_ (fun _ => ?_)
  ·intro y0 y1 y2 y3 y4 y5 y6 y7 y8 y9 y10 y11 y12 y13 y14 y15 y16 y17 y18
   unfold qad.j0
   repeat' first
   | (with_reducible exact ih0 _ _ _ _ _ _ _ _ _ _ _ _ _ _ _ _ _ _)
   | (with_reducible exact ih1 _ _ _ _ _ _ _ _ _ _ _ _ _ _ _ _ _ _ _)
   | (with_reducible exact ih2 _ _ _ _ _ _ _ _ _ _ _ _ _ _ _ _ _ _ _)
   | (with_reducible exact LeO.refl _)
   | (with_reducible exact LeO.none _)
   | (with_reducible refine LeO.ite ?_ ?_)
   | (with_reducible refine LeO.bind ?_ (fun _ => ?_))
   | exact ih0 _ _ _ _ _ _ _ _ _ _ _ _ _ _ _ _ _ _
   | exact ih1 _ _ _ _ _ _ _ _ _ _ _ _ _ _ _ _ _ _ _
   | exact ih2 _ _ _ _ _ _ _ _ _ _ _ _ _ _ _ _ _ _ _
   | exact LeO.none _
   | refine LeO.ite ?_ ?_
   | refine LeO.bind ?_ (fun _ => ?_)
  ·intro y0 y1 y2 y3 y4 y5 y6 y7 y8 y9 y10 y11 y12 y13 y14 y15 y16 y17 y18
   unfold qad.l0
   repeat' first
   | (with_reducible exact ih0 _ _ _ _ _ _ _ _ _ _ _ _ _ _ _ _ _ _)
   | (with_reducible exact ih1 _ _ _ _ _ _ _ _ _ _ _ _ _ _ _ _ _ _ _)
   | (with_reducible exact ih2 _ _ _ _ _ _ _ _ _ _ _ _ _ _ _ _ _ _ _)
   | (with_reducible exact LeO.refl _)
   | (with_reducible exact LeO.none _)
   | (with_reducible refine LeO.ite ?_ ?_)
   | (with_reducible refine LeO.bind ?_ (fun _ => ?_))
   | exact ih0 _ _ _ _ _ _ _ _ _ _ _ _ _ _ _ _ _ _
   | exact ih1 _ _ _ _ _ _ _ _ _ _ _ _ _ _ _ _ _ _ _
   | exact ih2 _ _ _ _ _ _ _ _ _ _ _ _ _ _ _ _ _ _ _
   | exact LeO.none _
   | refine LeO.ite ?_ ?_
   | refine LeO.bind ?_ (fun _ => ?_)
theorem qad.mono : ∀ a0 a1 a2 a3 a4 a5 a6 a7 a8 a9 a10 a11 a12 a13 a14 a15 a16 a17 k, LeO (qad.f k a0 a1 a2 a3 a4 a5 a6 a7 a8 a9 a10 a11 a12 a13 a14 a15 a16 a17) (qad.f (k + 1) a0 a1 a2 a3 a4 a5 a6 a7 a8 a9 a10 a11 a12 a13 a14 a15 a16 a17) := by
 intro a0 a1 a2 a3 a4 a5 a6 a7 a8 a9 a10 a11 a12 a13 a14 a15 a16 a17 k
 obtain ⟨ih0, ih1, ih2⟩ := qad.qcs k
 exact ih0 a0 a1 a2 a3 a4 a5 a6 a7 a8 a9 a10 a11 a12 a13 a14 a15 a16 a17
def qad.T6 : Bool × List (List Nat × List Nat) := (true, [([], []), ([0], [0]), ([], []), ([1, 2], [1, 2]), ([3], [3]), ([], []), ([5], [5]), ([], []), ([6, 7], [6, 7]), ([8], [8]), ([4, 9], [4, 9]), ([10], [10])])
def qad.B6 : List Nat := [0, 1, 0, 7, 15, 0, 32, 0, 224, 480, 1023, 2047]
theorem qad.tab6 : rtab .any (opsOf Try.f15 6) = qad.T6 := by kernel_rfl
theorem qad.bits6 : qct qad.T6.2 qad.B6 = true := by kernel_rfl
set_option maxHeartbeats 8000000 in
set_option maxRecDepth 100000 in
theorem qad.calls (k : Nat) : ∀ (a0_0 : Int) (a0_1 : Int) (a0_2 : Int) (a0_3 : Int) (a0_4 : Int) (a0_5 : Int) (a0_6 : Int) (a0_7 : Int) (A0_8 : Option Addr) (c0_8 : Nat) (l0_8 : List (S27)) (a1_0 : Int) (a1_1 : Int) (a1_2 : Int) (a1_3 : Int) (a1_4 : Int) (a1_5 : Int) (a1_6 : Int) (a1_7 : Int) (A1_8 : Option Addr) (c1_8 : Nat) (l1_8 : List (S27)) (r : Bool) (w : World) (hr0_8 : Kd.C k27 w A0_8 l0_8.length l0_8) (hc0_8 : l0_8.length ≤ c0_8) (hr1_8 : Kd.C k27 w A1_8 l1_8.length l1_8) (hc1_8 : l1_8.length ≤ c1_8) (h : qad.f k a0_0 a0_1 a0_2 a0_3 a0_4 a0_5 a0_6 a0_7 l0_8 a1_0 a1_1 a1_2 a1_3 a1_4 a1_5 a1_6 a1_7 l1_8 = some r) (hr : r = true := by rfl),
  Calls Try.prog 15 #[.agg #[.int .i64 a0_0, .int .u64 a0_1, .int .u64 a0_2, .int .u64 a0_3, .int .u64 a0_4, .int .i64 a0_5, .int .i64 a0_6, .int .i64 a0_7, .slice A0_8 l0_8.length c0_8], .agg #[.int .i64 a1_0, .int .u64 a1_1, .int .u64 a1_2, .int .u64 a1_3, .int .u64 a1_4, .int .i64 a1_5, .int .i64 a1_6, .int .i64 a1_7, .slice A1_8 l1_8.length c1_8]] w fun e w' => e = .returned (.bool r) ∧ Below w.heap.size w w' := by
 induction k using Nat.strongRecOn with
 | _ k ih =>
 intro a0_0 a0_1 a0_2 a0_3 a0_4 a0_5 a0_6 a0_7 A0_8 c0_8 l0_8 a1_0 a1_1 a1_2 a1_3 a1_4 a1_5 a1_6 a1_7 A1_8 c1_8 l1_8 r w hr0_8 hc0_8 hr1_8 hc1_8 h hr
 subst hr
 cases k with
 | zero => exact absurd h (by simp [qad.f])
 | succ k =>
 simp only [qad.f] at h
 have hu27 := Try.underlying27
 have hu24 := Try.underlying24
 have HR0_8 := qa0.mk hr0_8
 have HC0_8 := qa0.mk hc0_8
 clear hr0_8 hc0_8
 have HR1_8 := qa0.mk hr1_8
 have HC1_8 := qa0.mk hc1_8
 clear hr1_8 hc1_8
 have HB := qa0.mk (Below.refl w.heap.size w)
 have H : (if a0_0 = a1_0 then (if (!(a0_1 == a1_1) || (!(a0_2 == a1_2) || (!(a0_3 == a1_3) || (!(a0_4 == a1_4))))) = true then (qad.j0 k true a0_0 a0_1 a0_2 a0_3 a0_4 a0_5 a0_6 a0_7 l0_8 a1_0 a1_1 a1_2 a1_3 a1_4 a1_5 a1_6 a1_7 l1_8) else (if a0_5 = a1_5 then (if a0_6 = a1_6 then (if a0_7 = a1_7 then (qad.j0 k ((l0_8.length : Int) != (l1_8.length : Int)) a0_0 a0_1 a0_2 a0_3 a0_4 a0_5 a0_6 a0_7 l0_8 a1_0 a1_1 a1_2 a1_3 a1_4 a1_5 a1_6 a1_7 l1_8) else (qad.j0 k true a0_0 a0_1 a0_2 a0_3 a0_4 a0_5 a0_6 a0_7 l0_8 a1_0 a1_1 a1_2 a1_3 a1_4 a1_5 a1_6 a1_7 l1_8)) else (qad.j0 k true a0_0 a0_1 a0_2 a0_3 a0_4 a0_5 a0_6 a0_7 l0_8 a1_0 a1_1 a1_2 a1_3 a1_4 a1_5 a1_6 a1_7 l1_8)) else (qad.j0 k true a0_0 a0_1 a0_2 a0_3 a0_4 a0_5 a0_6 a0_7 l0_8 a1_0 a1_1 a1_2 a1_3 a1_4 a1_5 a1_6 a1_7 l1_8))) else (qad.j0 k true a0_0 a0_1 a0_2 a0_3 a0_4 a0_5 a0_6 a0_7 l0_8 a1_0 a1_1 a1_2 a1_3 a1_4 a1_5 a1_6 a1_7 l1_8)) = some true := h
 clear h
 have HC3 := qa0.mk H
 clear H
 go_enter Try.func15, Try.ntmps15
 go_upto_region 1 with (first | ((with_reducible refine qb7 (N := 2) rfl ?_); (try (refine qcd (by rfl) ?_; dsimp only)); refine qbb ?hg (N := 2) ?hd (cs := #[.int .i64 a0_0, .int .u64 a0_1, .int .u64 a0_2, .int .u64 a0_3, .int .u64 a0_4, .int .i64 a0_5, .int .i64 a0_6, .int .i64 a0_7, .slice A0_8 l0_8.length c0_8]) (t := 27) ?hr ?_; (case hd => rfl); (case hg => rfl); (case hr => first | (go_simp; done) | (go_simp; rfl)); intro gb278 hg w4 hbox hb; have n0_ := qa0.mk (qap (by repeat (first | (with_reducible first | exact HB.out | apply qa6 | apply qa7 | apply qa8) | exact HB.out)) hb); have n1_ := qa0.mk (hbox); have n2_ := qa0.mk ((by rw [hg]; exact (qaq (by repeat (first | (with_reducible first | exact HB.out | apply qa6 | apply qa7 | apply qa8) | exact HB.out))) : w.heap.size ≤ gb278)); have n3_ := qa0.mk ((by rw [hg]; exact (qaq (by repeat (first | (with_reducible first | exact HB.out | apply qa6 | apply qa7 | apply qa8) | exact HB.out))) : w.heap.size ≤ gb278)); clear HB; have HB := n0_; have BK278 := n1_; have GW278 := n2_; have GE278 := n3_; clear n0_ n1_ n2_ n3_; clear hb hbox hg) | ((with_reducible refine qb7 (N := 3) rfl ?_); (try (refine qcd (by rfl) ?_; dsimp only)); refine qbb ?hg (N := 3) ?hd (cs := #[.int .i64 a1_0, .int .u64 a1_1, .int .u64 a1_2, .int .u64 a1_3, .int .u64 a1_4, .int .i64 a1_5, .int .i64 a1_6, .int .i64 a1_7, .slice A1_8 l1_8.length c1_8]) (t := 27) ?hr ?_; (case hd => rfl); (case hg => rfl); (case hr => first | (go_simp; done) | (go_simp; rfl)); intro gb279 hg w5 hbox hb; have n0_ := qa0.mk (qae (g := gb278) (o := .cells #[.int .i64 a0_0, .int .u64 a0_1, .int .u64 a0_2, .int .u64 a0_3, .int .u64 a0_4, .int .i64 a0_5, .int .i64 a0_6, .int .i64 a0_7, .slice A0_8 l0_8.length c0_8] 27 (0, 0)) (by (with_reducible repeat (first | refine qa4 ?_ _ | refine qa5 ?_ | refine qa3 ?_ _)); exact BK278.out) hb); have n1_ := qa0.mk (qap (by repeat (first | (with_reducible first | exact HB.out | apply qa6 | apply qa7 | apply qa8 | refine qa9 ?_ GE278.out) | exact HB.out)) hb); have n2_ := qa0.mk (hbox); have n3_ := qa0.mk ((by rw [hg]; exact (qaq (by repeat (first | (with_reducible first | exact HB.out | apply qa6 | apply qa7 | apply qa8 | refine qa9 ?_ GE278.out) | exact HB.out))) : w.heap.size ≤ gb279)); have n4_ := qa0.mk ((by rw [hg]; exact (qaq (by repeat (first | (with_reducible first | exact HB.out | apply qa6 | apply qa7 | apply qa8 | refine qa9 ?_ GE278.out) | exact HB.out))) : w.heap.size ≤ gb279)); have n5_ := qa0.mk ((by rw [hg]; exact Nat.ne_of_lt (qam (g := gb278) (o := .cells #[.int .i64 a0_0, .int .u64 a0_1, .int .u64 a0_2, .int .u64 a0_3, .int .u64 a0_4, .int .i64 a0_5, .int .i64 a0_6, .int .i64 a0_7, .slice A0_8 l0_8.length c0_8] 27 (0, 0)) (by (with_reducible repeat (first | refine qa4 ?_ _ | refine qa5 ?_ | refine qa3 ?_ _)); exact BK278.out)) : gb278 ≠ gb279)); have n6_ := qa0.mk ((by rw [hg]; exact Nat.ne_of_gt (qam (g := gb278) (o := .cells #[.int .i64 a0_0, .int .u64 a0_1, .int .u64 a0_2, .int .u64 a0_3, .int .u64 a0_4, .int .i64 a0_5, .int .i64 a0_6, .int .i64 a0_7, .slice A0_8 l0_8.length c0_8] 27 (0, 0)) (by (with_reducible repeat (first | refine qa4 ?_ _ | refine qa5 ?_ | refine qa3 ?_ _)); exact BK278.out)) : gb279 ≠ gb278)); clear BK278; clear HB; have BK278 := n0_; have HB := n1_; have BK279 := n2_; have GW279 := n3_; have GE279 := n4_; have NB278_279 := n5_; have NB279_278 := n6_; clear n0_ n1_ n2_ n3_ n4_ n5_ n6_; clear hb hbox hg))
 (try simp only [Act.put, List.setIfInBounds_toArray, List.set_cons_zero, List.set_cons_succ])
 go_cut [47] (fun v47 wc => ∃ (kq : Nat) (x47_2 : Bool), v47 = .bool x47_2 ∧ qa0 (qad.j0 kq x47_2 a0_0 a0_1 a0_2 a0_3 a0_4 a0_5 a0_6 a0_7 l0_8 a1_0 a1_1 a1_2 a1_3 a1_4 a1_5 a1_6 a1_7 l1_8 = some true) ∧ qa0 (kq ≤ k) ∧ qa0 (wc.heap[gb278]? = some (.cells #[.int .i64 a0_0, .int .u64 a0_1, .int .u64 a0_2, .int .u64 a0_3, .int .u64 a0_4, .int .i64 a0_5, .int .i64 a0_6, .int .i64 a0_7, (.slice A0_8 l0_8.length c0_8)] 27 (0, 0))) ∧ qa0 (wc.heap[gb279]? = some (.cells #[.int .i64 a1_0, .int .u64 a1_1, .int .u64 a1_2, .int .u64 a1_3, .int .u64 a1_4, .int .i64 a1_5, .int .i64 a1_6, .int .i64 a1_7, (.slice A1_8 l1_8.length c1_8)] 27 (0, 0))) ∧ qa0 (Below w.heap.size w wc))
 case first =>
  have H := HC3.out
  clear HC3
  by_cases c6 : a0_0 = a1_0
  ·rw [if_pos c6] at H
   have c6b0 : (a0_0 == a1_0) = true := beq_iff_eq.mpr c6
   have c6b1 : (a0_0 != a1_0) = false := bne_eq_false_iff_eq.mpr c6
   clear c6
   (first | rw [c6b0] | (simp only [qbk, qcl]; rw [c6b0]) | skip)
   by_cases c7 : (!(a0_1 == a1_1) || (!(a0_2 == a1_2) || (!(a0_3 == a1_3) || (!(a0_4 == a1_4))))) = true
   ·rw [if_pos c7] at H
    have c7b0 : (!(a0_1 == a1_1) || (!(a0_2 == a1_2) || (!(a0_3 == a1_3) || (!(a0_4 == a1_4))))) = true := c7
    clear c7
    have H' := qa0.mk H
    clear H
    have hnb8 := NB278_279.out
    have hnc8 := NB279_278.out
    have hcz9_0 : w5.cell? ⟨gb278, 0, none⟩ = some (.int .i64 a0_0) := (qa2 BK278.out 0).trans rfl
    have hcz9_1 : w5.cell? ⟨gb278, 1, none⟩ = some (.int .u64 a0_1) := (qa2 BK278.out 1).trans rfl
    have hcz9_2 : w5.cell? ⟨gb278, 2, none⟩ = some (.int .u64 a0_2) := (qa2 BK278.out 2).trans rfl
    have hcz9_3 : w5.cell? ⟨gb278, 3, none⟩ = some (.int .u64 a0_3) := (qa2 BK278.out 3).trans rfl
    have hcz9_4 : w5.cell? ⟨gb278, 4, none⟩ = some (.int .u64 a0_4) := (qa2 BK278.out 4).trans rfl
    have hcz9_5 : w5.cell? ⟨gb278, 5, none⟩ = some (.int .i64 a0_5) := (qa2 BK278.out 5).trans rfl
    have hcz9_6 : w5.cell? ⟨gb278, 6, none⟩ = some (.int .i64 a0_6) := (qa2 BK278.out 6).trans rfl
    have hcz9_7 : w5.cell? ⟨gb278, 7, none⟩ = some (.int .i64 a0_7) := (qa2 BK278.out 7).trans rfl
    have hcz9_8 : w5.cell? ⟨gb278, 8, none⟩ = some (.slice A0_8 l0_8.length c0_8) := (qa2 BK278.out 8).trans rfl
    have hfz9_0 := qa1 BK278.out 0
    have hfz9_1 := qa1 BK278.out 1
    have hfz9_2 := qa1 BK278.out 2
    have hfz9_3 := qa1 BK278.out 3
    have hfz9_4 := qa1 BK278.out 4
    have hfz9_5 := qa1 BK278.out 5
    have hfz9_6 := qa1 BK278.out 6
    have hfz9_7 := qa1 BK278.out 7
    have hfz9_8 := qa1 BK278.out 8
    have hcz10_0 : w5.cell? ⟨gb279, 0, none⟩ = some (.int .i64 a1_0) := (qa2 BK279.out 0).trans rfl
    have hcz10_1 : w5.cell? ⟨gb279, 1, none⟩ = some (.int .u64 a1_1) := (qa2 BK279.out 1).trans rfl
    have hcz10_2 : w5.cell? ⟨gb279, 2, none⟩ = some (.int .u64 a1_2) := (qa2 BK279.out 2).trans rfl
    have hcz10_3 : w5.cell? ⟨gb279, 3, none⟩ = some (.int .u64 a1_3) := (qa2 BK279.out 3).trans rfl
    have hcz10_4 : w5.cell? ⟨gb279, 4, none⟩ = some (.int .u64 a1_4) := (qa2 BK279.out 4).trans rfl
    have hcz10_5 : w5.cell? ⟨gb279, 5, none⟩ = some (.int .i64 a1_5) := (qa2 BK279.out 5).trans rfl
    have hcz10_6 : w5.cell? ⟨gb279, 6, none⟩ = some (.int .i64 a1_6) := (qa2 BK279.out 6).trans rfl
    have hcz10_7 : w5.cell? ⟨gb279, 7, none⟩ = some (.int .i64 a1_7) := (qa2 BK279.out 7).trans rfl
    have hcz10_8 : w5.cell? ⟨gb279, 8, none⟩ = some (.slice A1_8 l1_8.length c1_8) := (qa2 BK279.out 8).trans rfl
    have hfz10_0 := qa1 BK279.out 0
    have hfz10_1 := qa1 BK279.out 1
    have hfz10_2 := qa1 BK279.out 2
    have hfz10_3 := qa1 BK279.out 3
    have hfz10_4 := qa1 BK279.out 4
    have hfz10_5 := qa1 BK279.out 5
    have hfz10_6 := qa1 BK279.out 6
    have hfz10_7 := qa1 BK279.out 7
    have hfz10_8 := qa1 BK279.out 8
    go_wp2
    go_meet
    case rel => exact ⟨_, (true), (by first | rfl | (simp; done) | (simp [*]; done) | (exfalso; simp only [decide_eq_true_eq] at *; omega)), H', ⟨by first | omega | exact Nat.le_refl _⟩, ⟨by (with_reducible repeat (first | refine qa4 ?_ _ | refine qa5 ?_ | refine qa3 ?_ _)); exact BK278.out⟩, ⟨by (with_reducible repeat (first | refine qa4 ?_ _ | refine qa5 ?_ | refine qa3 ?_ _)); exact BK279.out⟩, ⟨by repeat (first | (with_reducible first | exact HB.out | apply qa6 | apply qa7 | apply qa8 | refine qa9 ?_ GE278.out | refine qa9 ?_ GE279.out) | exact HB.out)⟩⟩
   ·rw [if_neg c7] at H
    have c7b0 : (!(a0_1 == a1_1) || (!(a0_2 == a1_2) || (!(a0_3 == a1_3) || (!(a0_4 == a1_4))))) = false := by simpa using c7
    clear c7
    by_cases c11 : a0_5 = a1_5
    ·rw [if_pos c11] at H
     have c11b0 : (a0_5 == a1_5) = true := beq_iff_eq.mpr c11
     have c11b1 : (a0_5 != a1_5) = false := bne_eq_false_iff_eq.mpr c11
     clear c11
     by_cases c12 : a0_6 = a1_6
     ·rw [if_pos c12] at H
      have c12b0 : (a0_6 == a1_6) = true := beq_iff_eq.mpr c12
      have c12b1 : (a0_6 != a1_6) = false := bne_eq_false_iff_eq.mpr c12
      clear c12
      by_cases c13 : a0_7 = a1_7
      ·rw [if_pos c13] at H
       have c13b0 : (a0_7 == a1_7) = true := beq_iff_eq.mpr c13
       have c13b1 : (a0_7 != a1_7) = false := bne_eq_false_iff_eq.mpr c13
       clear c13
       have H' := qa0.mk H
       clear H
       have hnb14 := NB278_279.out
       have hnc14 := NB279_278.out
       have hcz15_0 : w5.cell? ⟨gb278, 0, none⟩ = some (.int .i64 a0_0) := (qa2 BK278.out 0).trans rfl
       have hcz15_1 : w5.cell? ⟨gb278, 1, none⟩ = some (.int .u64 a0_1) := (qa2 BK278.out 1).trans rfl
       have hcz15_2 : w5.cell? ⟨gb278, 2, none⟩ = some (.int .u64 a0_2) := (qa2 BK278.out 2).trans rfl
       have hcz15_3 : w5.cell? ⟨gb278, 3, none⟩ = some (.int .u64 a0_3) := (qa2 BK278.out 3).trans rfl
       have hcz15_4 : w5.cell? ⟨gb278, 4, none⟩ = some (.int .u64 a0_4) := (qa2 BK278.out 4).trans rfl
       have hcz15_5 : w5.cell? ⟨gb278, 5, none⟩ = some (.int .i64 a0_5) := (qa2 BK278.out 5).trans rfl
       have hcz15_6 : w5.cell? ⟨gb278, 6, none⟩ = some (.int .i64 a0_6) := (qa2 BK278.out 6).trans rfl
       have hcz15_7 : w5.cell? ⟨gb278, 7, none⟩ = some (.int .i64 a0_7) := (qa2 BK278.out 7).trans rfl
       have hcz15_8 : w5.cell? ⟨gb278, 8, none⟩ = some (.slice A0_8 l0_8.length c0_8) := (qa2 BK278.out 8).trans rfl
       have hfz15_0 := qa1 BK278.out 0
       have hfz15_1 := qa1 BK278.out 1
       have hfz15_2 := qa1 BK278.out 2
       have hfz15_3 := qa1 BK278.out 3
       have hfz15_4 := qa1 BK278.out 4
       have hfz15_5 := qa1 BK278.out 5
       have hfz15_6 := qa1 BK278.out 6
       have hfz15_7 := qa1 BK278.out 7
       have hfz15_8 := qa1 BK278.out 8
       have hcz16_0 : w5.cell? ⟨gb279, 0, none⟩ = some (.int .i64 a1_0) := (qa2 BK279.out 0).trans rfl
       have hcz16_1 : w5.cell? ⟨gb279, 1, none⟩ = some (.int .u64 a1_1) := (qa2 BK279.out 1).trans rfl
       have hcz16_2 : w5.cell? ⟨gb279, 2, none⟩ = some (.int .u64 a1_2) := (qa2 BK279.out 2).trans rfl
       have hcz16_3 : w5.cell? ⟨gb279, 3, none⟩ = some (.int .u64 a1_3) := (qa2 BK279.out 3).trans rfl
       have hcz16_4 : w5.cell? ⟨gb279, 4, none⟩ = some (.int .u64 a1_4) := (qa2 BK279.out 4).trans rfl
       have hcz16_5 : w5.cell? ⟨gb279, 5, none⟩ = some (.int .i64 a1_5) := (qa2 BK279.out 5).trans rfl
       have hcz16_6 : w5.cell? ⟨gb279, 6, none⟩ = some (.int .i64 a1_6) := (qa2 BK279.out 6).trans rfl
       have hcz16_7 : w5.cell? ⟨gb279, 7, none⟩ = some (.int .i64 a1_7) := (qa2 BK279.out 7).trans rfl
       have hcz16_8 : w5.cell? ⟨gb279, 8, none⟩ = some (.slice A1_8 l1_8.length c1_8) := (qa2 BK279.out 8).trans rfl
       have hfz16_0 := qa1 BK279.out 0
       have hfz16_1 := qa1 BK279.out 1
       have hfz16_2 := qa1 BK279.out 2
       have hfz16_3 := qa1 BK279.out 3
       have hfz16_4 := qa1 BK279.out 4
       have hfz16_5 := qa1 BK279.out 5
       have hfz16_6 := qa1 BK279.out 6
       have hfz16_7 := qa1 BK279.out 7
       have hfz16_8 := qa1 BK279.out 8
       go_wp2
       go_meet
       case rel => exact ⟨_, (((l0_8.length : Int) != (l1_8.length : Int))), (by first | rfl | (simp; done) | (simp [*]; done) | (exfalso; simp only [decide_eq_true_eq] at *; omega)), H', ⟨by first | omega | exact Nat.le_refl _⟩, ⟨by (with_reducible repeat (first | refine qa4 ?_ _ | refine qa5 ?_ | refine qa3 ?_ _)); exact BK278.out⟩, ⟨by (with_reducible repeat (first | refine qa4 ?_ _ | refine qa5 ?_ | refine qa3 ?_ _)); exact BK279.out⟩, ⟨by repeat (first | (with_reducible first | exact HB.out | apply qa6 | apply qa7 | apply qa8 | refine qa9 ?_ GE278.out | refine qa9 ?_ GE279.out) | exact HB.out)⟩⟩
      ·rw [if_neg c13] at H
       have c13b0 : (a0_7 == a1_7) = false := beq_eq_false_iff_ne.mpr c13
       have c13b1 : (a0_7 != a1_7) = true := bne_iff_ne.mpr c13
       have H' := qa0.mk H
       clear H
       have hnb17 := NB278_279.out
       have hnc17 := NB279_278.out
       have hcz18_0 : w5.cell? ⟨gb278, 0, none⟩ = some (.int .i64 a0_0) := (qa2 BK278.out 0).trans rfl
       have hcz18_1 : w5.cell? ⟨gb278, 1, none⟩ = some (.int .u64 a0_1) := (qa2 BK278.out 1).trans rfl
       have hcz18_2 : w5.cell? ⟨gb278, 2, none⟩ = some (.int .u64 a0_2) := (qa2 BK278.out 2).trans rfl
       have hcz18_3 : w5.cell? ⟨gb278, 3, none⟩ = some (.int .u64 a0_3) := (qa2 BK278.out 3).trans rfl
       have hcz18_4 : w5.cell? ⟨gb278, 4, none⟩ = some (.int .u64 a0_4) := (qa2 BK278.out 4).trans rfl
       have hcz18_5 : w5.cell? ⟨gb278, 5, none⟩ = some (.int .i64 a0_5) := (qa2 BK278.out 5).trans rfl
       have hcz18_6 : w5.cell? ⟨gb278, 6, none⟩ = some (.int .i64 a0_6) := (qa2 BK278.out 6).trans rfl
       have hcz18_7 : w5.cell? ⟨gb278, 7, none⟩ = some (.int .i64 a0_7) := (qa2 BK278.out 7).trans rfl
       have hcz18_8 : w5.cell? ⟨gb278, 8, none⟩ = some (.slice A0_8 l0_8.length c0_8) := (qa2 BK278.out 8).trans rfl
       have hfz18_0 := qa1 BK278.out 0
       have hfz18_1 := qa1 BK278.out 1
       have hfz18_2 := qa1 BK278.out 2
       have hfz18_3 := qa1 BK278.out 3
       have hfz18_4 := qa1 BK278.out 4
       have hfz18_5 := qa1 BK278.out 5
       have hfz18_6 := qa1 BK278.out 6
       have hfz18_7 := qa1 BK278.out 7
       have hfz18_8 := qa1 BK278.out 8
       have hcz19_0 : w5.cell? ⟨gb279, 0, none⟩ = some (.int .i64 a1_0) := (qa2 BK279.out 0).trans rfl
       have hcz19_1 : w5.cell? ⟨gb279, 1, none⟩ = some (.int .u64 a1_1) := (qa2 BK279.out 1).trans rfl
       have hcz19_2 : w5.cell? ⟨gb279, 2, none⟩ = some (.int .u64 a1_2) := (qa2 BK279.out 2).trans rfl
       have hcz19_3 : w5.cell? ⟨gb279, 3, none⟩ = some (.int .u64 a1_3) := (qa2 BK279.out 3).trans rfl
       have hcz19_4 : w5.cell? ⟨gb279, 4, none⟩ = some (.int .u64 a1_4) := (qa2 BK279.out 4).trans rfl
       have hcz19_5 : w5.cell? ⟨gb279, 5, none⟩ = some (.int .i64 a1_5) := (qa2 BK279.out 5).trans rfl
       have hcz19_6 : w5.cell? ⟨gb279, 6, none⟩ = some (.int .i64 a1_6) := (qa2 BK279.out 6).trans rfl
       have hcz19_7 : w5.cell? ⟨gb279, 7, none⟩ = some (.int .i64 a1_7) := (qa2 BK279.out 7).trans rfl
       have hcz19_8 : w5.cell? ⟨gb279, 8, none⟩ = some (.slice A1_8 l1_8.length c1_8) := (qa2 BK279.out 8).trans rfl
       have hfz19_0 := qa1 BK279.out 0
       have hfz19_1 := qa1 BK279.out 1
       have hfz19_2 := qa1 BK279.out 2
       have hfz19_3 := qa1 BK279.out 3
       have hfz19_4 := qa1 BK279.out 4
       have hfz19_5 := qa1 BK279.out 5
       have hfz19_6 := qa1 BK279.out 6
       have hfz19_7 := qa1 BK279.out 7
       have hfz19_8 := qa1 BK279.out 8
       go_wp2
       go_meet
       case rel => exact ⟨_, (true), (by first | rfl | (simp; done) | (simp [*]; done) | (exfalso; simp only [decide_eq_true_eq] at *; omega)), H', ⟨by first | omega | exact Nat.le_refl _⟩, ⟨by (with_reducible repeat (first | refine qa4 ?_ _ | refine qa5 ?_ | refine qa3 ?_ _)); exact BK278.out⟩, ⟨by (with_reducible repeat (first | refine qa4 ?_ _ | refine qa5 ?_ | refine qa3 ?_ _)); exact BK279.out⟩, ⟨by repeat (first | (with_reducible first | exact HB.out | apply qa6 | apply qa7 | apply qa8 | refine qa9 ?_ GE278.out | refine qa9 ?_ GE279.out) | exact HB.out)⟩⟩
     ·rw [if_neg c12] at H
      have c12b0 : (a0_6 == a1_6) = false := beq_eq_false_iff_ne.mpr c12
      have c12b1 : (a0_6 != a1_6) = true := bne_iff_ne.mpr c12
      have H' := qa0.mk H
      clear H
      have hnb20 := NB278_279.out
      have hnc20 := NB279_278.out
      have hcz21_0 : w5.cell? ⟨gb278, 0, none⟩ = some (.int .i64 a0_0) := (qa2 BK278.out 0).trans rfl
      have hcz21_1 : w5.cell? ⟨gb278, 1, none⟩ = some (.int .u64 a0_1) := (qa2 BK278.out 1).trans rfl
      have hcz21_2 : w5.cell? ⟨gb278, 2, none⟩ = some (.int .u64 a0_2) := (qa2 BK278.out 2).trans rfl
      have hcz21_3 : w5.cell? ⟨gb278, 3, none⟩ = some (.int .u64 a0_3) := (qa2 BK278.out 3).trans rfl
      have hcz21_4 : w5.cell? ⟨gb278, 4, none⟩ = some (.int .u64 a0_4) := (qa2 BK278.out 4).trans rfl
      have hcz21_5 : w5.cell? ⟨gb278, 5, none⟩ = some (.int .i64 a0_5) := (qa2 BK278.out 5).trans rfl
      have hcz21_6 : w5.cell? ⟨gb278, 6, none⟩ = some (.int .i64 a0_6) := (qa2 BK278.out 6).trans rfl
      have hcz21_7 : w5.cell? ⟨gb278, 7, none⟩ = some (.int .i64 a0_7) := (qa2 BK278.out 7).trans rfl
      have hcz21_8 : w5.cell? ⟨gb278, 8, none⟩ = some (.slice A0_8 l0_8.length c0_8) := (qa2 BK278.out 8).trans rfl
      have hfz21_0 := qa1 BK278.out 0
      have hfz21_1 := qa1 BK278.out 1
      have hfz21_2 := qa1 BK278.out 2
      have hfz21_3 := qa1 BK278.out 3
      have hfz21_4 := qa1 BK278.out 4
      have hfz21_5 := qa1 BK278.out 5
      have hfz21_6 := qa1 BK278.out 6
      have hfz21_7 := qa1 BK278.out 7
      have hfz21_8 := qa1 BK278.out 8
      have hcz22_0 : w5.cell? ⟨gb279, 0, none⟩ = some (.int .i64 a1_0) := (qa2 BK279.out 0).trans rfl
      have hcz22_1 : w5.cell? ⟨gb279, 1, none⟩ = some (.int .u64 a1_1) := (qa2 BK279.out 1).trans rfl
      have hcz22_2 : w5.cell? ⟨gb279, 2, none⟩ = some (.int .u64 a1_2) := (qa2 BK279.out 2).trans rfl
      have hcz22_3 : w5.cell? ⟨gb279, 3, none⟩ = some (.int .u64 a1_3) := (qa2 BK279.out 3).trans rfl
      have hcz22_4 : w5.cell? ⟨gb279, 4, none⟩ = some (.int .u64 a1_4) := (qa2 BK279.out 4).trans rfl
      have hcz22_5 : w5.cell? ⟨gb279, 5, none⟩ = some (.int .i64 a1_5) := (qa2 BK279.out 5).trans rfl
      have hcz22_6 : w5.cell? ⟨gb279, 6, none⟩ = some (.int .i64 a1_6) := (qa2 BK279.out 6).trans rfl
      have hcz22_7 : w5.cell? ⟨gb279, 7, none⟩ = some (.int .i64 a1_7) := (qa2 BK279.out 7).trans rfl
      have hcz22_8 : w5.cell? ⟨gb279, 8, none⟩ = some (.slice A1_8 l1_8.length c1_8) := (qa2 BK279.out 8).trans rfl
      have hfz22_0 := qa1 BK279.out 0
      have hfz22_1 := qa1 BK279.out 1
      have hfz22_2 := qa1 BK279.out 2
      have hfz22_3 := qa1 BK279.out 3
      have hfz22_4 := qa1 BK279.out 4
      have hfz22_5 := qa1 BK279.out 5
      have hfz22_6 := qa1 BK279.out 6
      have hfz22_7 := qa1 BK279.out 7
      have hfz22_8 := qa1 BK279.out 8
      go_wp2
      go_meet
      case rel => exact ⟨_, (true), (by first | rfl | (simp; done) | (simp [*]; done) | (exfalso; simp only [decide_eq_true_eq] at *; omega)), H', ⟨by first | omega | exact Nat.le_refl _⟩, ⟨by (with_reducible repeat (first | refine qa4 ?_ _ | refine qa5 ?_ | refine qa3 ?_ _)); exact BK278.out⟩, ⟨by (with_reducible repeat (first | refine qa4 ?_ _ | refine qa5 ?_ | refine qa3 ?_ _)); exact BK279.out⟩, ⟨by repeat (first | (with_reducible first | exact HB.out | apply qa6 | apply qa7 | apply qa8 | refine qa9 ?_ GE278.out | refine qa9 ?_ GE279.out) | exact HB.out)⟩⟩
    ·rw [if_neg c11] at H
     have c11b0 : (a0_5 == a1_5) = false := beq_eq_false_iff_ne.mpr c11
     have c11b1 : (a0_5 != a1_5) = true := bne_iff_ne.mpr c11
     have H' := qa0.mk H
     clear H
     have hnb23 := NB278_279.out
     have hnc23 := NB279_278.out
     have hcz24_0 : w5.cell? ⟨gb278, 0, none⟩ = some (.int .i64 a0_0) := (qa2 BK278.out 0).trans rfl
     have hcz24_1 : w5.cell? ⟨gb278, 1, none⟩ = some (.int .u64 a0_1) := (qa2 BK278.out 1).trans rfl
     have hcz24_2 : w5.cell? ⟨gb278, 2, none⟩ = some (.int .u64 a0_2) := (qa2 BK278.out 2).trans rfl
     have hcz24_3 : w5.cell? ⟨gb278, 3, none⟩ = some (.int .u64 a0_3) := (qa2 BK278.out 3).trans rfl
     have hcz24_4 : w5.cell? ⟨gb278, 4, none⟩ = some (.int .u64 a0_4) := (qa2 BK278.out 4).trans rfl
     have hcz24_5 : w5.cell? ⟨gb278, 5, none⟩ = some (.int .i64 a0_5) := (qa2 BK278.out 5).trans rfl
     have hcz24_6 : w5.cell? ⟨gb278, 6, none⟩ = some (.int .i64 a0_6) := (qa2 BK278.out 6).trans rfl
     have hcz24_7 : w5.cell? ⟨gb278, 7, none⟩ = some (.int .i64 a0_7) := (qa2 BK278.out 7).trans rfl
     have hcz24_8 : w5.cell? ⟨gb278, 8, none⟩ = some (.slice A0_8 l0_8.length c0_8) := (qa2 BK278.out 8).trans rfl
     have hfz24_0 := qa1 BK278.out 0
     have hfz24_1 := qa1 BK278.out 1
     have hfz24_2 := qa1 BK278.out 2
     have hfz24_3 := qa1 BK278.out 3
     have hfz24_4 := qa1 BK278.out 4
     have hfz24_5 := qa1 BK278.out 5
     have hfz24_6 := qa1 BK278.out 6
     have hfz24_7 := qa1 BK278.out 7
     have hfz24_8 := qa1 BK278.out 8
     have hcz25_0 : w5.cell? ⟨gb279, 0, none⟩ = some (.int .i64 a1_0) := (qa2 BK279.out 0).trans rfl
     have hcz25_1 : w5.cell? ⟨gb279, 1, none⟩ = some (.int .u64 a1_1) := (qa2 BK279.out 1).trans rfl
     have hcz25_2 : w5.cell? ⟨gb279, 2, none⟩ = some (.int .u64 a1_2) := (qa2 BK279.out 2).trans rfl
     have hcz25_3 : w5.cell? ⟨gb279, 3, none⟩ = some (.int .u64 a1_3) := (qa2 BK279.out 3).trans rfl
     have hcz25_4 : w5.cell? ⟨gb279, 4, none⟩ = some (.int .u64 a1_4) := (qa2 BK279.out 4).trans rfl
     have hcz25_5 : w5.cell? ⟨gb279, 5, none⟩ = some (.int .i64 a1_5) := (qa2 BK279.out 5).trans rfl
     have hcz25_6 : w5.cell? ⟨gb279, 6, none⟩ = some (.int .i64 a1_6) := (qa2 BK279.out 6).trans rfl
     have hcz25_7 : w5.cell? ⟨gb279, 7, none⟩ = some (.int .i64 a1_7) := (qa2 BK279.out 7).trans rfl
     have hcz25_8 : w5.cell? ⟨gb279, 8, none⟩ = some (.slice A1_8 l1_8.length c1_8) := (qa2 BK279.out 8).trans rfl
     have hfz25_0 := qa1 BK279.out 0
     have hfz25_1 := qa1 BK279.out 1
     have hfz25_2 := qa1 BK279.out 2
     have hfz25_3 := qa1 BK279.out 3
     have hfz25_4 := qa1 BK279.out 4
     have hfz25_5 := qa1 BK279.out 5
     have hfz25_6 := qa1 BK279.out 6
     have hfz25_7 := qa1 BK279.out 7
     have hfz25_8 := qa1 BK279.out 8
     go_wp2
     go_meet
     case rel => exact ⟨_, (true), (by first | rfl | (simp; done) | (simp [*]; done) | (exfalso; simp only [decide_eq_true_eq] at *; omega)), H', ⟨by first | omega | exact Nat.le_refl _⟩, ⟨by (with_reducible repeat (first | refine qa4 ?_ _ | refine qa5 ?_ | refine qa3 ?_ _)); exact BK278.out⟩, ⟨by (with_reducible repeat (first | refine qa4 ?_ _ | refine qa5 ?_ | refine qa3 ?_ _)); exact BK279.out⟩, ⟨by repeat (first | (with_reducible first | exact HB.out | apply qa6 | apply qa7 | apply qa8 | refine qa9 ?_ GE278.out | refine qa9 ?_ GE279.out) | exact HB.out)⟩⟩
  ·rw [if_neg c6] at H
   have c6b0 : (a0_0 == a1_0) = false := beq_eq_false_iff_ne.mpr c6
   have c6b1 : (a0_0 != a1_0) = true := bne_iff_ne.mpr c6
   (first | rw [c6b0] | (simp only [qbk, qcl]; rw [c6b0]) | skip)
   have H' := qa0.mk H
   clear H
   have hnb26 := NB278_279.out
   have hnc26 := NB279_278.out
   have hcz27_0 : w5.cell? ⟨gb278, 0, none⟩ = some (.int .i64 a0_0) := (qa2 BK278.out 0).trans rfl
   have hcz27_1 : w5.cell? ⟨gb278, 1, none⟩ = some (.int .u64 a0_1) := (qa2 BK278.out 1).trans rfl
   have hcz27_2 : w5.cell? ⟨gb278, 2, none⟩ = some (.int .u64 a0_2) := (qa2 BK278.out 2).trans rfl
   have hcz27_3 : w5.cell? ⟨gb278, 3, none⟩ = some (.int .u64 a0_3) := (qa2 BK278.out 3).trans rfl
   have hcz27_4 : w5.cell? ⟨gb278, 4, none⟩ = some (.int .u64 a0_4) := (qa2 BK278.out 4).trans rfl
   have hcz27_5 : w5.cell? ⟨gb278, 5, none⟩ = some (.int .i64 a0_5) := (qa2 BK278.out 5).trans rfl
   have hcz27_6 : w5.cell? ⟨gb278, 6, none⟩ = some (.int .i64 a0_6) := (qa2 BK278.out 6).trans rfl
   have hcz27_7 : w5.cell? ⟨gb278, 7, none⟩ = some (.int .i64 a0_7) := (qa2 BK278.out 7).trans rfl
   have hcz27_8 : w5.cell? ⟨gb278, 8, none⟩ = some (.slice A0_8 l0_8.length c0_8) := (qa2 BK278.out 8).trans rfl
   have hfz27_0 := qa1 BK278.out 0
   have hfz27_1 := qa1 BK278.out 1
   have hfz27_2 := qa1 BK278.out 2
   have hfz27_3 := qa1 BK278.out 3
   have hfz27_4 := qa1 BK278.out 4
   have hfz27_5 := qa1 BK278.out 5
   have hfz27_6 := qa1 BK278.out 6
   have hfz27_7 := qa1 BK278.out 7
   have hfz27_8 := qa1 BK278.out 8
   have hcz28_0 : w5.cell? ⟨gb279, 0, none⟩ = some (.int .i64 a1_0) := (qa2 BK279.out 0).trans rfl
   have hcz28_1 : w5.cell? ⟨gb279, 1, none⟩ = some (.int .u64 a1_1) := (qa2 BK279.out 1).trans rfl
   have hcz28_2 : w5.cell? ⟨gb279, 2, none⟩ = some (.int .u64 a1_2) := (qa2 BK279.out 2).trans rfl
   have hcz28_3 : w5.cell? ⟨gb279, 3, none⟩ = some (.int .u64 a1_3) := (qa2 BK279.out 3).trans rfl
   have hcz28_4 : w5.cell? ⟨gb279, 4, none⟩ = some (.int .u64 a1_4) := (qa2 BK279.out 4).trans rfl
   have hcz28_5 : w5.cell? ⟨gb279, 5, none⟩ = some (.int .i64 a1_5) := (qa2 BK279.out 5).trans rfl
   have hcz28_6 : w5.cell? ⟨gb279, 6, none⟩ = some (.int .i64 a1_6) := (qa2 BK279.out 6).trans rfl
   have hcz28_7 : w5.cell? ⟨gb279, 7, none⟩ = some (.int .i64 a1_7) := (qa2 BK279.out 7).trans rfl
   have hcz28_8 : w5.cell? ⟨gb279, 8, none⟩ = some (.slice A1_8 l1_8.length c1_8) := (qa2 BK279.out 8).trans rfl
   have hfz28_0 := qa1 BK279.out 0
   have hfz28_1 := qa1 BK279.out 1
   have hfz28_2 := qa1 BK279.out 2
   have hfz28_3 := qa1 BK279.out 3
   have hfz28_4 := qa1 BK279.out 4
   have hfz28_5 := qa1 BK279.out 5
   have hfz28_6 := qa1 BK279.out 6
   have hfz28_7 := qa1 BK279.out 7
   have hfz28_8 := qa1 BK279.out 8
   go_wp2
   go_meet
   case rel => exact ⟨_, (true), (by first | rfl | (simp; done) | (simp [*]; done) | (exfalso; simp only [decide_eq_true_eq] at *; omega)), H', ⟨by first | omega | exact Nat.le_refl _⟩, ⟨by (with_reducible repeat (first | refine qa4 ?_ _ | refine qa5 ?_ | refine qa3 ?_ _)); exact BK278.out⟩, ⟨by (with_reducible repeat (first | refine qa4 ?_ _ | refine qa5 ?_ | refine qa3 ?_ _)); exact BK279.out⟩, ⟨by repeat (first | (with_reducible first | exact HB.out | apply qa6 | apply qa7 | apply qa8 | refine qa9 ?_ GE278.out | refine qa9 ?_ GE279.out) | exact HB.out)⟩⟩
 case rest =>
  clear HC3
  try clear c1
  try clear c2
  try clear p2
  try clear c6
  try clear c6b0
  try clear c6b1
  try clear c7
  try clear c7b0
  try clear c8
  try clear c11
  try clear c11b0
  try clear c11b1
  try clear c12
  try clear c12b0
  try clear c12b1
  try clear c13
  try clear c13b0
  try clear c13b1
  try clear c14
  try clear c15
  try clear c17
  try clear c20
  try clear c23
  try clear c26
  try clear hcz10_0
  try clear hcz10_1
  try clear hcz10_2
  try clear hcz10_3
  try clear hcz10_4
  try clear hcz10_5
  try clear hcz10_6
  try clear hcz10_7
  try clear hcz10_8
  try clear hcz15_0
  try clear hcz15_1
  try clear hcz15_2
  try clear hcz15_3
  try clear hcz15_4
  try clear hcz15_5
  try clear hcz15_6
  try clear hcz15_7
  try clear hcz15_8
  try clear hcz16_0
  try clear hcz16_1
  try clear hcz16_2
  try clear hcz16_3
  try clear hcz16_4
  try clear hcz16_5
  try clear hcz16_6
  try clear hcz16_7
  try clear hcz16_8
  try clear hcz18_0
  try clear hcz18_1
  try clear hcz18_2
  try clear hcz18_3
  try clear hcz18_4
  try clear hcz18_5
  try clear hcz18_6
  try clear hcz18_7
  try clear hcz18_8
  try clear hcz19_0
  try clear hcz19_1
  try clear hcz19_2
  try clear hcz19_3
  try clear hcz19_4
  try clear hcz19_5
  try clear hcz19_6
  try clear hcz19_7
  try clear hcz19_8
  try clear hcz21_0
  try clear hcz21_1
  try clear hcz21_2
  try clear hcz21_3
  try clear hcz21_4
  try clear hcz21_5
  try clear hcz21_6
  try clear hcz21_7
  try clear hcz21_8
  try clear hcz22_0
  try clear hcz22_1
  try clear hcz22_2
  try clear hcz22_3
  try clear hcz22_4
  try clear hcz22_5
  try clear hcz22_6
  try clear hcz22_7
  try clear hcz22_8
  try clear hcz24_0
  try clear hcz24_1
  try clear hcz24_2
  try clear hcz24_3
  try clear hcz24_4
  try clear hcz24_5
  try clear hcz24_6
  try clear hcz24_7
  try clear hcz24_8
  try clear hcz25_0
  try clear hcz25_1
  try clear hcz25_2
  try clear hcz25_3
  try clear hcz25_4
  try clear hcz25_5
  try clear hcz25_6
  try clear hcz25_7
  try clear hcz25_8
  try clear hcz27_0
  try clear hcz27_1
  try clear hcz27_2
  try clear hcz27_3
  try clear hcz27_4
  try clear hcz27_5
  try clear hcz27_6
  try clear hcz27_7
  try clear hcz27_8
  try clear hcz28_0
  try clear hcz28_1
  try clear hcz28_2
  try clear hcz28_3
  try clear hcz28_4
  try clear hcz28_5
  try clear hcz28_6
  try clear hcz28_7
  try clear hcz28_8
  try clear hcz9_0
  try clear hcz9_1
  try clear hcz9_2
  try clear hcz9_3
  try clear hcz9_4
  try clear hcz9_5
  try clear hcz9_6
  try clear hcz9_7
  try clear hcz9_8
  try clear hfz10_0
  try clear hfz10_1
  try clear hfz10_2
  try clear hfz10_3
  try clear hfz10_4
  try clear hfz10_5
  try clear hfz10_6
  try clear hfz10_7
  try clear hfz10_8
  try clear hfz15_0
  try clear hfz15_1
  try clear hfz15_2
  try clear hfz15_3
  try clear hfz15_4
  try clear hfz15_5
  try clear hfz15_6
  try clear hfz15_7
  try clear hfz15_8
  try clear hfz16_0
  try clear hfz16_1
  try clear hfz16_2
  try clear hfz16_3
  try clear hfz16_4
  try clear hfz16_5
  try clear hfz16_6
  try clear hfz16_7
  try clear hfz16_8
  try clear hfz18_0
  try clear hfz18_1
  try clear hfz18_2
  try clear hfz18_3
  try clear hfz18_4
  try clear hfz18_5
  try clear hfz18_6
  try clear hfz18_7
  try clear hfz18_8
  try clear hfz19_0
  try clear hfz19_1
  try clear hfz19_2
  try clear hfz19_3
  try clear hfz19_4
  try clear hfz19_5
  try clear hfz19_6
  try clear hfz19_7
  try clear hfz19_8
  try clear hfz21_0
  try clear hfz21_1
  try clear hfz21_2
  try clear hfz21_3
  try clear hfz21_4
  try clear hfz21_5
  try clear hfz21_6
  try clear hfz21_7
  try clear hfz21_8
  try clear hfz22_0
  try clear hfz22_1
  try clear hfz22_2
  try clear hfz22_3
  try clear hfz22_4
  try clear hfz22_5
  try clear hfz22_6
  try clear hfz22_7
  try clear hfz22_8
  try clear hfz24_0
  try clear hfz24_1
  try clear hfz24_2
  try clear hfz24_3
  try clear hfz24_4
  try clear hfz24_5
  try clear hfz24_6
  try clear hfz24_7
  try clear hfz24_8
  try clear hfz25_0
  try clear hfz25_1
  try clear hfz25_2
  try clear hfz25_3
  try clear hfz25_4
  try clear hfz25_5
  try clear hfz25_6
  try clear hfz25_7
  try clear hfz25_8
  try clear hfz27_0
  try clear hfz27_1
  try clear hfz27_2
  try clear hfz27_3
  try clear hfz27_4
  try clear hfz27_5
  try clear hfz27_6
  try clear hfz27_7
  try clear hfz27_8
  try clear hfz28_0
  try clear hfz28_1
  try clear hfz28_2
  try clear hfz28_3
  try clear hfz28_4
  try clear hfz28_5
  try clear hfz28_6
  try clear hfz28_7
  try clear hfz28_8
  try clear hfz9_0
  try clear hfz9_1
  try clear hfz9_2
  try clear hfz9_3
  try clear hfz9_4
  try clear hfz9_5
  try clear hfz9_6
  try clear hfz9_7
  try clear hfz9_8
  obtain ⟨kq, x47_2, rfl, HA, HJ2, BK278, BK279, HB⟩ := hcut
  cases kq with
  | zero => exact absurd HA.out (by simp [qad.j0])
  | succ kj2 =>
   have H := HA.out
   clear HA
   simp only [qad.j0] at H
   by_cases c29 : x47_2 = true
   ·subst c29
    have H1 : (some false) = some true := by rw [if_pos rfl] at H; exact H
    clear H
    have H := H1
    clear H1
    cases Option.some.inj H
   ·replace c29 := Bool.eq_false_iff.mpr c29
    subst c29
    have H1 : (qad.l0 kj2 0 a0_0 a0_1 a0_2 a0_3 a0_4 a0_5 a0_6 a0_7 l0_8 a1_0 a1_1 a1_2 a1_3 a1_4 a1_5 a1_6 a1_7 l1_8) = some true := by rw [if_neg (show ¬ (false = true) by decide)] at H; exact H
    clear H
    have H := H1
    clear H1
    have H' := qa0.mk H
    clear H
    go_wp2
    go_loopg [5] kj2 (fun kq v5 w' => ∃ (x5_2 : Int), v5 = .int .i64 x5_2 ∧ qa0 (qad.l0 kq x5_2 a0_0 a0_1 a0_2 a0_3 a0_4 a0_5 a0_6 a0_7 l0_8 a1_0 a1_1 a1_2 a1_3 a1_4 a1_5 a1_6 a1_7 l1_8 = some true) ∧ qa0 (kq ≤ kj2) ∧ qa0 (w'.heap[gb278]? = some (.cells #[.int .i64 a0_0, .int .u64 a0_1, .int .u64 a0_2, .int .u64 a0_3, .int .u64 a0_4, .int .i64 a0_5, .int .i64 a0_6, .int .i64 a0_7, (.slice A0_8 l0_8.length c0_8)] 27 (0, 0))) ∧ qa0 (w'.heap[gb279]? = some (.cells #[.int .i64 a1_0, .int .u64 a1_1, .int .u64 a1_2, .int .u64 a1_3, .int .u64 a1_4, .int .i64 a1_5, .int .i64 a1_6, .int .i64 a1_7, (.slice A1_8 l1_8.length c1_8)] 27 (0, 0))) ∧ qa0 (Below w.heap.size w w'))
    case atStart => exact ⟨(0), (by first | rfl | (simp; done) | (simp [*]; done) | (exfalso; simp only [decide_eq_true_eq] at *; omega)), H', ⟨Nat.le_refl _⟩, ⟨by (with_reducible repeat (first | refine qa4 ?_ _ | refine qa5 ?_ | refine qa3 ?_ _)); exact BK278.out⟩, ⟨by (with_reducible repeat (first | refine qa4 ?_ _ | refine qa5 ?_ | refine qa3 ?_ _)); exact BK279.out⟩, ⟨by repeat (first | (with_reducible first | exact HB.out | apply qa6 | apply qa7 | apply qa8 | refine qa9 ?_ GE278.out | refine qa9 ?_ GE279.out) | exact HB.out)⟩⟩
    case round =>
     clear H'
     try clear c1
     try clear c2
     try clear p2
     try clear c6
     try clear c6b0
     try clear c6b1
     try clear c7
     try clear c7b0
     try clear c8
     try clear c11
     try clear c11b0
     try clear c11b1
     try clear c12
     try clear c12b0
     try clear c12b1
     try clear c13
     try clear c13b0
     try clear c13b1
     try clear c14
     try clear c15
     try clear c17
     try clear c20
     try clear c23
     try clear c26
     try clear c29
     try clear hcz10_0
     try clear hcz10_1
     try clear hcz10_2
     try clear hcz10_3
     try clear hcz10_4
     try clear hcz10_5
     try clear hcz10_6
     try clear hcz10_7
     try clear hcz10_8
     try clear hcz15_0
     try clear hcz15_1
     try clear hcz15_2
     try clear hcz15_3
     try clear hcz15_4
     try clear hcz15_5
     try clear hcz15_6
     try clear hcz15_7
     try clear hcz15_8
     try clear hcz16_0
     try clear hcz16_1
     try clear hcz16_2
     try clear hcz16_3
     try clear hcz16_4
     try clear hcz16_5
     try clear hcz16_6
     try clear hcz16_7
     try clear hcz16_8
     try clear hcz18_0
     try clear hcz18_1
     try clear hcz18_2
     try clear hcz18_3
     try clear hcz18_4
     try clear hcz18_5
     try clear hcz18_6
     try clear hcz18_7
     try clear hcz18_8
     try clear hcz19_0
     try clear hcz19_1
     try clear hcz19_2
     try clear hcz19_3
     try clear hcz19_4
     try clear hcz19_5
     try clear hcz19_6
     try clear hcz19_7
     try clear hcz19_8
     try clear hcz21_0
     try clear hcz21_1
     try clear hcz21_2
     try clear hcz21_3
     try clear hcz21_4
     try clear hcz21_5
     try clear hcz21_6
     try clear hcz21_7
     try clear hcz21_8
     try clear hcz22_0
     try clear hcz22_1
     try clear hcz22_2
     try clear hcz22_3
     try clear hcz22_4
     try clear hcz22_5
     try clear hcz22_6
     try clear hcz22_7
     try clear hcz22_8
     try clear hcz24_0
     try clear hcz24_1
     try clear hcz24_2
     try clear hcz24_3
     try clear hcz24_4
     try clear hcz24_5
     try clear hcz24_6
     try clear hcz24_7
     try clear hcz24_8
     try clear hcz25_0
     try clear hcz25_1
     try clear hcz25_2
     try clear hcz25_3
     try clear hcz25_4
     try clear hcz25_5
     try clear hcz25_6
     try clear hcz25_7
     try clear hcz25_8
     try clear hcz27_0
     try clear hcz27_1
     try clear hcz27_2
     try clear hcz27_3
     try clear hcz27_4
     try clear hcz27_5
     try clear hcz27_6
     try clear hcz27_7
     try clear hcz27_8
     try clear hcz28_0
     try clear hcz28_1
     try clear hcz28_2
     try clear hcz28_3
     try clear hcz28_4
     try clear hcz28_5
     try clear hcz28_6
     try clear hcz28_7
     try clear hcz28_8
     try clear hcz9_0
     try clear hcz9_1
     try clear hcz9_2
     try clear hcz9_3
     try clear hcz9_4
     try clear hcz9_5
     try clear hcz9_6
     try clear hcz9_7
     try clear hcz9_8
     try clear hfz10_0
     try clear hfz10_1
     try clear hfz10_2
     try clear hfz10_3
     try clear hfz10_4
     try clear hfz10_5
     try clear hfz10_6
     try clear hfz10_7
     try clear hfz10_8
     try clear hfz15_0
     try clear hfz15_1
     try clear hfz15_2
     try clear hfz15_3
     try clear hfz15_4
     try clear hfz15_5
     try clear hfz15_6
     try clear hfz15_7
     try clear hfz15_8
     try clear hfz16_0
     try clear hfz16_1
     try clear hfz16_2
     try clear hfz16_3
     try clear hfz16_4
     try clear hfz16_5
     try clear hfz16_6
     try clear hfz16_7
     try clear hfz16_8
     try clear hfz18_0
     try clear hfz18_1
     try clear hfz18_2
     try clear hfz18_3
     try clear hfz18_4
     try clear hfz18_5
     try clear hfz18_6
     try clear hfz18_7
     try clear hfz18_8
     try clear hfz19_0
     try clear hfz19_1
     try clear hfz19_2
     try clear hfz19_3
     try clear hfz19_4
     try clear hfz19_5
     try clear hfz19_6
     try clear hfz19_7
     try clear hfz19_8
     try clear hfz21_0
     try clear hfz21_1
     try clear hfz21_2
     try clear hfz21_3
     try clear hfz21_4
     try clear hfz21_5
     try clear hfz21_6
     try clear hfz21_7
     try clear hfz21_8
     try clear hfz22_0
     try clear hfz22_1
     try clear hfz22_2
     try clear hfz22_3
     try clear hfz22_4
     try clear hfz22_5
     try clear hfz22_6
     try clear hfz22_7
     try clear hfz22_8
     try clear hfz24_0
     try clear hfz24_1
     try clear hfz24_2
     try clear hfz24_3
     try clear hfz24_4
     try clear hfz24_5
     try clear hfz24_6
     try clear hfz24_7
     try clear hfz24_8
     try clear hfz25_0
     try clear hfz25_1
     try clear hfz25_2
     try clear hfz25_3
     try clear hfz25_4
     try clear hfz25_5
     try clear hfz25_6
     try clear hfz25_7
     try clear hfz25_8
     try clear hfz27_0
     try clear hfz27_1
     try clear hfz27_2
     try clear hfz27_3
     try clear hfz27_4
     try clear hfz27_5
     try clear hfz27_6
     try clear hfz27_7
     try clear hfz27_8
     try clear hfz28_0
     try clear hfz28_1
     try clear hfz28_2
     try clear hfz28_3
     try clear hfz28_4
     try clear hfz28_5
     try clear hfz28_6
     try clear hfz28_7
     try clear hfz28_8
     try clear hfz9_0
     try clear hfz9_1
     try clear hfz9_2
     try clear hfz9_3
     try clear hfz9_4
     try clear hfz9_5
     try clear hfz9_6
     try clear hfz9_7
     try clear hfz9_8
     try clear p2
     obtain ⟨x5_2, rfl, HA, HK2, BK278, BK279, HB⟩ := hrel
     cases gk with
     | zero => exact absurd HA.out (by simp [qad.l0])
     | succ k2 =>
      have H := HA.out
      clear HA
      simp only [qad.l0] at H
      by_cases c30 : x5_2 < (l0_8.length : Int)
      ·rw [if_pos c30] at H
       have c30b0 : decide (x5_2 < (l0_8.length : Int)) = true := decide_eq_true c30
       clear c30
       by_cases c31 : 0 ≤ x5_2
       ·rw [if_pos c31] at H
        have c31b0 : decide (0 ≤ x5_2) = true := decide_eq_true c31
        clear c31
        by_cases c32 : x5_2 < (l1_8.length : Int)
        ·rw [if_pos c32] at H
         have c32b0 : decide (x5_2 < (l1_8.length : Int)) = true := decide_eq_true c32
         clear c32
         replace H := Option.bind_eq_some_iff.mp H
         obtain ⟨t282, A330, H⟩ := H
         replace H : (if t282 = true then (qad.l0 k2 (wrap64 (x5_2 + 1)) a0_0 a0_1 a0_2 a0_3 a0_4 a0_5 a0_6 a0_7 l0_8 a1_0 a1_1 a1_2 a1_3 a1_4 a1_5 a1_6 a1_7 l1_8) else (some false)) = some true := H
         have A33 := qa0.mk A330
         clear A330
         by_cases c34 : t282 = true
         ·subst c34
          have H1 : (qad.l0 k2 (wrap64 (x5_2 + 1)) a0_0 a0_1 a0_2 a0_3 a0_4 a0_5 a0_6 a0_7 l0_8 a1_0 a1_1 a1_2 a1_3 a1_4 a1_5 a1_6 a1_7 l1_8) = some true := by rw [if_pos rfl] at H; exact H
          clear H
          have H := H1
          clear H1
          have H' := qa0.mk H
          clear H
          have hnb35 := NB278_279.out
          have hnc35 := NB279_278.out
          have hcz36_0 : wr.cell? ⟨gb278, 0, none⟩ = some (.int .i64 a0_0) := (qa2 BK278.out 0).trans rfl
          have hcz36_1 : wr.cell? ⟨gb278, 1, none⟩ = some (.int .u64 a0_1) := (qa2 BK278.out 1).trans rfl
          have hcz36_2 : wr.cell? ⟨gb278, 2, none⟩ = some (.int .u64 a0_2) := (qa2 BK278.out 2).trans rfl
          have hcz36_3 : wr.cell? ⟨gb278, 3, none⟩ = some (.int .u64 a0_3) := (qa2 BK278.out 3).trans rfl
          have hcz36_4 : wr.cell? ⟨gb278, 4, none⟩ = some (.int .u64 a0_4) := (qa2 BK278.out 4).trans rfl
          have hcz36_5 : wr.cell? ⟨gb278, 5, none⟩ = some (.int .i64 a0_5) := (qa2 BK278.out 5).trans rfl
          have hcz36_6 : wr.cell? ⟨gb278, 6, none⟩ = some (.int .i64 a0_6) := (qa2 BK278.out 6).trans rfl
          have hcz36_7 : wr.cell? ⟨gb278, 7, none⟩ = some (.int .i64 a0_7) := (qa2 BK278.out 7).trans rfl
          have hcz36_8 : wr.cell? ⟨gb278, 8, none⟩ = some (.slice A0_8 l0_8.length c0_8) := (qa2 BK278.out 8).trans rfl
          have hfz36_0 := qa1 BK278.out 0
          have hfz36_1 := qa1 BK278.out 1
          have hfz36_2 := qa1 BK278.out 2
          have hfz36_3 := qa1 BK278.out 3
          have hfz36_4 := qa1 BK278.out 4
          have hfz36_5 := qa1 BK278.out 5
          have hfz36_6 := qa1 BK278.out 6
          have hfz36_7 := qa1 BK278.out 7
          have hfz36_8 := qa1 BK278.out 8
          try go_wp2
          have n0_ := qa0.mk (qa5 BK278.out)
          have n1_ := qa0.mk (qa5 BK279.out)
          have n2_ := qa0.mk (qa8 HB.out)
          clear BK278
          clear BK279
          clear HB
          have BK278 := n0_
          have BK279 := n1_
          have HB := n2_
          clear n0_ n1_ n2_
          have p280 : 0 ≤ (x5_2 : Int) := of_decide_eq_true (by first | (with_reducible assumption) | assumption)
          have q280 : x5_2 < (l0_8.length : Int) := of_decide_eq_true (by first | (with_reducible assumption) | assumption)
          obtain ⟨ad280, A280_8, c280_8, e280, hx280_0, hx280_1, hx280_2, hx280_3, hx280_4, hx280_5, hx280_6, hx280_7, hx280_8, hl280_8, hi280_8⟩ := qdo HR0_8.out x5_2 p280 q280
          have hw280_8 := hx280_8
          have hw280_7 := hx280_7
          have hw280_6 := hx280_6
          have hw280_5 := hx280_5
          have hw280_4 := hx280_4
          have hw280_3 := hx280_3
          have hw280_2 := hx280_2
          have hw280_1 := hx280_1
          have hw280_0 := hx280_0
          cases e280
          replace hx280_0 := (HB.out.cell (World.block_lt_of_cell? w _ hx280_0)).trans hx280_0
          replace hx280_1 := (HB.out.cell (World.block_lt_of_cell? w _ hx280_1)).trans hx280_1
          replace hx280_2 := (HB.out.cell (World.block_lt_of_cell? w _ hx280_2)).trans hx280_2
          replace hx280_3 := (HB.out.cell (World.block_lt_of_cell? w _ hx280_3)).trans hx280_3
          replace hx280_4 := (HB.out.cell (World.block_lt_of_cell? w _ hx280_4)).trans hx280_4
          replace hx280_5 := (HB.out.cell (World.block_lt_of_cell? w _ hx280_5)).trans hx280_5
          replace hx280_6 := (HB.out.cell (World.block_lt_of_cell? w _ hx280_6)).trans hx280_6
          replace hx280_7 := (HB.out.cell (World.block_lt_of_cell? w _ hx280_7)).trans hx280_7
          replace hx280_8 := (HB.out.cell (World.block_lt_of_cell? w _ hx280_8)).trans hx280_8
          have HR280_8 := qa0.mk hi280_8
          have HC280_8 := qa0.mk hl280_8
          clear hi280_8 hl280_8
          replace p280 := eq_true p280
          replace q280 := eq_true q280
          have p281 : 0 ≤ (x5_2 : Int) := of_decide_eq_true (by first | (with_reducible assumption) | assumption)
          have q281 : x5_2 < (l1_8.length : Int) := of_decide_eq_true (by first | (with_reducible assumption) | assumption)
          obtain ⟨ad281, A281_8, c281_8, e281, hx281_0, hx281_1, hx281_2, hx281_3, hx281_4, hx281_5, hx281_6, hx281_7, hx281_8, hl281_8, hi281_8⟩ := qdo HR1_8.out x5_2 p281 q281
          have hw281_8 := hx281_8
          have hw281_7 := hx281_7
          have hw281_6 := hx281_6
          have hw281_5 := hx281_5
          have hw281_4 := hx281_4
          have hw281_3 := hx281_3
          have hw281_2 := hx281_2
          have hw281_1 := hx281_1
          have hw281_0 := hx281_0
          cases e281
          replace hx281_0 := (HB.out.cell (World.block_lt_of_cell? w _ hx281_0)).trans hx281_0
          replace hx281_1 := (HB.out.cell (World.block_lt_of_cell? w _ hx281_1)).trans hx281_1
          replace hx281_2 := (HB.out.cell (World.block_lt_of_cell? w _ hx281_2)).trans hx281_2
          replace hx281_3 := (HB.out.cell (World.block_lt_of_cell? w _ hx281_3)).trans hx281_3
          replace hx281_4 := (HB.out.cell (World.block_lt_of_cell? w _ hx281_4)).trans hx281_4
          replace hx281_5 := (HB.out.cell (World.block_lt_of_cell? w _ hx281_5)).trans hx281_5
          replace hx281_6 := (HB.out.cell (World.block_lt_of_cell? w _ hx281_6)).trans hx281_6
          replace hx281_7 := (HB.out.cell (World.block_lt_of_cell? w _ hx281_7)).trans hx281_7
          replace hx281_8 := (HB.out.cell (World.block_lt_of_cell? w _ hx281_8)).trans hx281_8
          have HR281_8 := qa0.mk hi281_8
          have HC281_8 := qa0.mk hl281_8
          clear hi281_8 hl281_8
          replace p281 := eq_true p281
          replace q281 := eq_true q281
          refine qe1 (n := 12) (S := fun w' => w'.cell? ⟨gb278, 0, none⟩ = some (.int .i64 a0_0) ∧ w'.cell? ⟨gb278, 1, none⟩ = some (.int .u64 a0_1) ∧ w'.cell? ⟨gb278, 2, none⟩ = some (.int .u64 a0_2) ∧ w'.cell? ⟨gb278, 3, none⟩ = some (.int .u64 a0_3) ∧ w'.cell? ⟨gb278, 4, none⟩ = some (.int .u64 a0_4) ∧ w'.cell? ⟨gb278, 5, none⟩ = some (.int .i64 a0_5) ∧ w'.cell? ⟨gb278, 6, none⟩ = some (.int .i64 a0_6) ∧ w'.cell? ⟨gb278, 7, none⟩ = some (.int .i64 a0_7) ∧ w'.cell? ⟨gb278, 8, none⟩ = some (.slice (some ad280) l0_8.length c0_8) ∧ w'.cell? ⟨gb279, 0, none⟩ = some (.int .i64 a1_0) ∧ w'.cell? ⟨gb279, 1, none⟩ = some (.int .u64 a1_1) ∧ w'.cell? ⟨gb279, 2, none⟩ = some (.int .u64 a1_2) ∧ w'.cell? ⟨gb279, 3, none⟩ = some (.int .u64 a1_3) ∧ w'.cell? ⟨gb279, 4, none⟩ = some (.int .u64 a1_4) ∧ w'.cell? ⟨gb279, 5, none⟩ = some (.int .i64 a1_5) ∧ w'.cell? ⟨gb279, 6, none⟩ = some (.int .i64 a1_6) ∧ w'.cell? ⟨gb279, 7, none⟩ = some (.int .i64 a1_7) ∧ w'.cell? ⟨gb279, 8, none⟩ = some (.slice (some ad281) l1_8.length c1_8) ∧ w'.cell? (ad280.add ((x5_2).toNat * 9)) = some (.int .i64 ((qag l0_8 x5_2).f0)) ∧ w'.cell? ⟨(ad280.add ((x5_2).toNat * 9)).block, (ad280.add ((x5_2).toNat * 9)).off + 1, none⟩ = some (.int .u64 ((qag l0_8 x5_2).f1.f0)) ∧ w'.cell? ⟨(ad280.add ((x5_2).toNat * 9)).block, (ad280.add ((x5_2).toNat * 9)).off + 2, none⟩ = some (.int .u64 ((qag l0_8 x5_2).f1.f1)) ∧ w'.cell? ⟨(ad280.add ((x5_2).toNat * 9)).block, (ad280.add ((x5_2).toNat * 9)).off + 3, none⟩ = some (.int .u64 ((qag l0_8 x5_2).f1.f2)) ∧ w'.cell? ⟨(ad280.add ((x5_2).toNat * 9)).block, (ad280.add ((x5_2).toNat * 9)).off + 4, none⟩ = some (.int .u64 ((qag l0_8 x5_2).f1.f3)) ∧ w'.cell? ⟨(ad280.add ((x5_2).toNat * 9)).block, (ad280.add ((x5_2).toNat * 9)).off + 5, none⟩ = some (.int .i64 ((qag l0_8 x5_2).f2)) ∧ w'.cell? ⟨(ad280.add ((x5_2).toNat * 9)).block, (ad280.add ((x5_2).toNat * 9)).off + 6, none⟩ = some (.int .i64 ((qag l0_8 x5_2).f3)) ∧ w'.cell? ⟨(ad280.add ((x5_2).toNat * 9)).block, (ad280.add ((x5_2).toNat * 9)).off + 7, none⟩ = some (.int .i64 ((qag l0_8 x5_2).f4)) ∧ w'.cell? ⟨(ad280.add ((x5_2).toNat * 9)).block, (ad280.add ((x5_2).toNat * 9)).off + 8, none⟩ = some (.slice A280_8 ((qag l0_8 x5_2).f5).length c280_8) ∧ w'.cell? (ad281.add ((x5_2).toNat * 9)) = some (.int .i64 ((qag l1_8 x5_2).f0)) ∧ w'.cell? ⟨(ad281.add ((x5_2).toNat * 9)).block, (ad281.add ((x5_2).toNat * 9)).off + 1, none⟩ = some (.int .u64 ((qag l1_8 x5_2).f1.f0)) ∧ w'.cell? ⟨(ad281.add ((x5_2).toNat * 9)).block, (ad281.add ((x5_2).toNat * 9)).off + 2, none⟩ = some (.int .u64 ((qag l1_8 x5_2).f1.f1)) ∧ w'.cell? ⟨(ad281.add ((x5_2).toNat * 9)).block, (ad281.add ((x5_2).toNat * 9)).off + 3, none⟩ = some (.int .u64 ((qag l1_8 x5_2).f1.f2)) ∧ w'.cell? ⟨(ad281.add ((x5_2).toNat * 9)).block, (ad281.add ((x5_2).toNat * 9)).off + 4, none⟩ = some (.int .u64 ((qag l1_8 x5_2).f1.f3)) ∧ w'.cell? ⟨(ad281.add ((x5_2).toNat * 9)).block, (ad281.add ((x5_2).toNat * 9)).off + 5, none⟩ = some (.int .i64 ((qag l1_8 x5_2).f2)) ∧ w'.cell? ⟨(ad281.add ((x5_2).toNat * 9)).block, (ad281.add ((x5_2).toNat * 9)).off + 6, none⟩ = some (.int .i64 ((qag l1_8 x5_2).f3)) ∧ w'.cell? ⟨(ad281.add ((x5_2).toNat * 9)).block, (ad281.add ((x5_2).toNat * 9)).off + 7, none⟩ = some (.int .i64 ((qag l1_8 x5_2).f4)) ∧ w'.cell? ⟨(ad281.add ((x5_2).toNat * 9)).block, (ad281.add ((x5_2).toNat * 9)).off + 8, none⟩ = some (.slice A281_8 ((qag l1_8 x5_2).f5).length c281_8)) (ds := []) #[false, false, false, false, false, false, false, false, false, false, false, false] (by kernel_rfl) rfl rfl ⟨(qa2 BK278.out 0).trans rfl, (qa2 BK278.out 1).trans rfl, (qa2 BK278.out 2).trans rfl, (qa2 BK278.out 3).trans rfl, (qa2 BK278.out 4).trans rfl, (qa2 BK278.out 5).trans rfl, (qa2 BK278.out 6).trans rfl, (qa2 BK278.out 7).trans rfl, (qa2 BK278.out 8).trans rfl, (qa2 BK279.out 0).trans rfl, (qa2 BK279.out 1).trans rfl, (qa2 BK279.out 2).trans rfl, (qa2 BK279.out 3).trans rfl, (qa2 BK279.out 4).trans rfl, (qa2 BK279.out 5).trans rfl, (qa2 BK279.out 6).trans rfl, (qa2 BK279.out 7).trans rfl, (qa2 BK279.out 8).trans rfl, ((HB.out.cell (World.block_lt_of_cell? w _ hw280_0)).trans hw280_0), ((HB.out.cell (World.block_lt_of_cell? w _ hw280_1)).trans hw280_1), ((HB.out.cell (World.block_lt_of_cell? w _ hw280_2)).trans hw280_2), ((HB.out.cell (World.block_lt_of_cell? w _ hw280_3)).trans hw280_3), ((HB.out.cell (World.block_lt_of_cell? w _ hw280_4)).trans hw280_4), ((HB.out.cell (World.block_lt_of_cell? w _ hw280_5)).trans hw280_5), ((HB.out.cell (World.block_lt_of_cell? w _ hw280_6)).trans hw280_6), ((HB.out.cell (World.block_lt_of_cell? w _ hw280_7)).trans hw280_7), ((HB.out.cell (World.block_lt_of_cell? w _ hw280_8)).trans hw280_8), ((HB.out.cell (World.block_lt_of_cell? w _ hw281_0)).trans hw281_0), ((HB.out.cell (World.block_lt_of_cell? w _ hw281_1)).trans hw281_1), ((HB.out.cell (World.block_lt_of_cell? w _ hw281_2)).trans hw281_2), ((HB.out.cell (World.block_lt_of_cell? w _ hw281_3)).trans hw281_3), ((HB.out.cell (World.block_lt_of_cell? w _ hw281_4)).trans hw281_4), ((HB.out.cell (World.block_lt_of_cell? w _ hw281_5)).trans hw281_5), ((HB.out.cell (World.block_lt_of_cell? w _ hw281_6)).trans hw281_6), ((HB.out.cell (World.block_lt_of_cell? w _ hw281_7)).trans hw281_7), ((HB.out.cell (World.block_lt_of_cell? w _ hw281_8)).trans hw281_8)⟩ (fun hHeld => ?_); refine qd4 qad.tab6 qad.bits6 (fun HT_ HW_ => ?_)
          generalize wr.drew = w37 at BK278 BK279 HB HR280_8 HR281_8 hx280_0 hx280_1 hx280_2 hx280_3 hx280_4 hx280_5 hx280_6 hx280_7 hx280_8 hx281_0 hx281_1 hx281_2 hx281_3 hx281_4 hx281_5 hx281_6 hx281_7 hx281_8 hHeld ⊢
          refine qgk (i := 0) (N := some 55) (v := ?_) (a' := ?_) #[true, false, false, false, false, false, false, false, false, false, false, false] rfl rfl (qfi HT_.out (by kernel_rfl)) (fun _ _ _ h => h) (Or.inl ⟨by rfl, ?_⟩) ?_ ?_
          rotate_left
          ·intro w'
           go_simp
           with_reducible rfl
          rotate_left
          ·simp only [Act.put, List.setIfInBounds_toArray, List.set_cons_zero, List.set_cons_succ, qbk, qcl]
           rfl
          refine qgk (i := 2) (N := some 57) (v := ?_) (a' := ?_) #[true, false, true, false, false, false, false, false, false, false, false, false] rfl rfl (qfi HT_.out (by kernel_rfl)) (fun _ _ _ h => h) (Or.inl ⟨by rfl, ?_⟩) ?_ ?_
          rotate_left
          ·intro w'
           go_simp
           with_reducible rfl
          rotate_left
          ·simp only [Act.put, List.setIfInBounds_toArray, List.set_cons_zero, List.set_cons_succ, qbk, qcl]
           rfl
          refine qgk (i := 5) (N := some 60) (v := ?_) (a' := ?_) #[true, false, true, false, false, true, false, false, false, false, false, false] rfl rfl (qfi HT_.out (by kernel_rfl)) (fun _ _ _ h => h) (Or.inl ⟨by rfl, ?_⟩) ?_ ?_
          rotate_left
          ·intro w'
           go_simp
           with_reducible rfl
          rotate_left
          ·simp only [Act.put, List.setIfInBounds_toArray, List.set_cons_zero, List.set_cons_succ, qbk, qcl]
           rfl
          refine qgk (i := 7) (N := some 62) (v := ?_) (a' := ?_) #[true, false, true, false, false, true, false, true, false, false, false, false] rfl rfl (qfi HT_.out (by kernel_rfl)) (fun _ _ _ h => h) (Or.inl ⟨by rfl, ?_⟩) ?_ ?_
          rotate_left
          ·intro w'
           go_simp
           with_reducible rfl
          rotate_left
          ·simp only [Act.put, List.setIfInBounds_toArray, List.set_cons_zero, List.set_cons_succ, qbk, qcl]
           rfl
          refine qhe (i := 1) (N := some 56) (v := ?_) (a' := ?_) #[true, true, true, false, false, true, false, true, false, false, false, false] rfl rfl (qgh HT_.out HW_.out (by kernel_rfl)) (fun _ _ _ h => h) (Or.inl ⟨by rfl, ?_⟩) hHeld ?_ ?_
          rotate_left
          ·rintro w' ⟨s0, s1, s2, s3, s4, s5, s6, s7, s8, s9, s10, s11, s12, s13, s14, s15, s16, s17, s18, s19, s20, s21, s22, s23, s24, s25, s26, s27, s28, s29, s30, s31, s32, s33, s34, s35⟩
           go_simp
           with_reducible rfl
          rotate_left
          ·simp only [Act.put, List.setIfInBounds_toArray, List.set_cons_zero, List.set_cons_succ, qbk, qcl]
           rfl
          refine qgk (i := 3) (N := some 58) (v := ?_) (a' := ?_) #[true, true, true, true, false, true, false, true, false, false, false, false] rfl rfl (qfi HT_.out (by kernel_rfl)) (fun _ _ _ h => h) (Or.inl ⟨by rfl, ?_⟩) ?_ ?_
          rotate_left
          ·intro w'
           go_simp
           with_reducible rfl
          rotate_left
          ·simp only [Act.put, List.setIfInBounds_toArray, List.set_cons_zero, List.set_cons_succ, qbk, qcl]
           rfl
          refine qhe (i := 4) (N := some 59) (v := ?_) (a' := ?_) #[true, true, true, true, true, true, false, true, false, false, false, false] rfl rfl (qgh HT_.out HW_.out (by kernel_rfl)) (fun _ _ _ h => h) (Or.inl ⟨by rfl, ?_⟩) hHeld ?_ ?_
          rotate_left
          ·rintro w' ⟨s0, s1, s2, s3, s4, s5, s6, s7, s8, s9, s10, s11, s12, s13, s14, s15, s16, s17, s18, s19, s20, s21, s22, s23, s24, s25, s26, s27, s28, s29, s30, s31, s32, s33, s34, s35⟩
           go_simp
           with_reducible rfl
          rotate_left
          ·simp only [Act.put, List.setIfInBounds_toArray, List.set_cons_zero, List.set_cons_succ, qbk, qcl]
           rfl
          refine qhe (i := 6) (N := some 61) (v := ?_) (a' := ?_) #[true, true, true, true, true, true, true, true, false, false, false, false] rfl rfl (qgh HT_.out HW_.out (by kernel_rfl)) (fun _ _ _ h => h) (Or.inl ⟨by rfl, ?_⟩) hHeld ?_ ?_
          rotate_left
          ·rintro w' ⟨s0, s1, s2, s3, s4, s5, s6, s7, s8, s9, s10, s11, s12, s13, s14, s15, s16, s17, s18, s19, s20, s21, s22, s23, s24, s25, s26, s27, s28, s29, s30, s31, s32, s33, s34, s35⟩
           go_simp
           with_reducible rfl
          rotate_left
          ·simp only [Act.put, List.setIfInBounds_toArray, List.set_cons_zero, List.set_cons_succ, qbk, qcl]
           rfl
          refine qgk (i := 8) (N := some 63) (v := ?_) (a' := ?_) #[true, true, true, true, true, true, true, true, true, false, false, false] rfl rfl (qfi HT_.out (by kernel_rfl)) (fun _ _ _ h => h) (Or.inl ⟨by rfl, ?_⟩) ?_ ?_
          rotate_left
          ·intro w'
           go_simp
           with_reducible rfl
          rotate_left
          ·simp only [Act.put, List.setIfInBounds_toArray, List.set_cons_zero, List.set_cons_succ, qbk, qcl]
           rfl
          refine qhe (i := 9) (N := some 64) (v := ?_) (a' := ?_) #[true, true, true, true, true, true, true, true, true, true, false, false] rfl rfl (qgh HT_.out HW_.out (by kernel_rfl)) (fun _ _ _ h => h) (Or.inl ⟨by rfl, ?_⟩) hHeld ?_ ?_
          rotate_left
          ·rintro w' ⟨s0, s1, s2, s3, s4, s5, s6, s7, s8, s9, s10, s11, s12, s13, s14, s15, s16, s17, s18, s19, s20, s21, s22, s23, s24, s25, s26, s27, s28, s29, s30, s31, s32, s33, s34, s35⟩
           go_simp
           with_reducible rfl
          rotate_left
          ·simp only [Act.put, List.setIfInBounds_toArray, List.set_cons_zero, List.set_cons_succ, qbk, qcl]
           rfl
          refine one_ (i := 10) (N := some 65) #[true, true, true, true, true, true, true, true, true, true, true, false] rfl rfl (one_of HT_.out (by kernel_rfl)) (by decide) (fun K hK => ?_)
          refine qhb Try.func15 (by kernel_rfl) rfl #[.agg #[.int .i64 ((qag l0_8 x5_2).f0), .int .u64 ((qag l0_8 x5_2).f1.f0), .int .u64 ((qag l0_8 x5_2).f1.f1), .int .u64 ((qag l0_8 x5_2).f1.f2), .int .u64 ((qag l0_8 x5_2).f1.f3), .int .i64 ((qag l0_8 x5_2).f2), .int .i64 ((qag l0_8 x5_2).f3), .int .i64 ((qag l0_8 x5_2).f4), .slice A280_8 ((qag l0_8 x5_2).f5).length c280_8], .agg #[.int .i64 ((qag l1_8 x5_2).f0), .int .u64 ((qag l1_8 x5_2).f1.f0), .int .u64 ((qag l1_8 x5_2).f1.f1), .int .u64 ((qag l1_8 x5_2).f1.f2), .int .u64 ((qag l1_8 x5_2).f1.f3), .int .i64 ((qag l1_8 x5_2).f2), .int .i64 ((qag l1_8 x5_2).f3), .int .i64 ((qag l1_8 x5_2).f4), .slice A281_8 ((qag l1_8 x5_2).f5).length c281_8]] (by rfl) rfl rfl (by (try simp only [List.map_toArray, List.map_cons, List.map_nil]); first | done | rfl | (simp only [List.length_drop, List.length_take]; rfl)) ?_
          with_reducible refine (ih k2 (by have := HJ2.out; have := HK2.out; omega) ((qag l0_8 x5_2).f0) ((qag l0_8 x5_2).f1.f0) ((qag l0_8 x5_2).f1.f1) ((qag l0_8 x5_2).f1.f2) ((qag l0_8 x5_2).f1.f3) ((qag l0_8 x5_2).f2) ((qag l0_8 x5_2).f3) ((qag l0_8 x5_2).f4) _ _ ((qag l0_8 x5_2).f5) ((qag l1_8 x5_2).f0) ((qag l1_8 x5_2).f1.f0) ((qag l1_8 x5_2).f1.f1) ((qag l1_8 x5_2).f1.f2) ((qag l1_8 x5_2).f1.f3) ((qag l1_8 x5_2).f2) ((qag l1_8 x5_2).f3) ((qag l1_8 x5_2).f4) _ _ ((qag l1_8 x5_2).f5) true _ ?side1 ?side2 ?side3 ?side4 A33.out).mono ?_
          (case side1 => repeat (first | exact (Kd.qdp HR280_8.out HB.out) | (with_reducible refine Kd.qj8 ?_ _) | (with_reducible refine Kd.qj2 ?_ _) | (with_reducible refine Kd.C_drew ?_)))
          (case side2 => exact HC280_8.out)
          (case side3 => repeat (first | exact (Kd.qdp HR281_8.out HB.out) | (with_reducible refine Kd.qj8 ?_ _) | (with_reducible refine Kd.qj2 ?_ _) | (with_reducible refine Kd.C_drew ?_)))
          (case side4 => exact HC281_8.out)
          rintro e w38 ⟨rfl, hb⟩
          refine ⟨_, rfl, ?_⟩
          have n0_ := qa0.mk (qae (g := gb278) (o := .cells #[.int .i64 a0_0, .int .u64 a0_1, .int .u64 a0_2, .int .u64 a0_3, .int .u64 a0_4, .int .i64 a0_5, .int .i64 a0_6, .int .i64 a0_7, .slice (some ad280) l0_8.length c0_8] 27 (0, 0)) (by (with_reducible repeat (first | refine qa4 ?_ _ | refine qa5 ?_ | refine qa3 ?_ _)); exact BK278.out) hb)
          have n1_ := qa0.mk (qae (g := gb279) (o := .cells #[.int .i64 a1_0, .int .u64 a1_1, .int .u64 a1_2, .int .u64 a1_3, .int .u64 a1_4, .int .i64 a1_5, .int .i64 a1_6, .int .i64 a1_7, .slice (some ad281) l1_8.length c1_8] 27 (0, 0)) (by (with_reducible repeat (first | refine qa4 ?_ _ | refine qa5 ?_ | refine qa3 ?_ _)); exact BK279.out) hb)
          have n2_ := qa0.mk (qap (by repeat (first | (with_reducible first | exact HB.out | apply qa6 | apply qa7 | apply qa8 | refine qa9 ?_ GE278.out | refine qa9 ?_ GE279.out) | exact HB.out)) hb)
          clear BK278
          clear BK279
          clear HB
          have BK278 := n0_
          have BK279 := n1_
          have HB := n2_
          clear n0_ n1_ n2_
          (try clear hb)
          (try clear hb2)
          (try clear hk)
          (try clear hi)
          refine hK.out _ _ ⟨(qa2 BK278.out 0).trans rfl, (qa2 BK278.out 1).trans rfl, (qa2 BK278.out 2).trans rfl, (qa2 BK278.out 3).trans rfl, (qa2 BK278.out 4).trans rfl, (qa2 BK278.out 5).trans rfl, (qa2 BK278.out 6).trans rfl, (qa2 BK278.out 7).trans rfl, (qa2 BK278.out 8).trans rfl, (qa2 BK279.out 0).trans rfl, (qa2 BK279.out 1).trans rfl, (qa2 BK279.out 2).trans rfl, (qa2 BK279.out 3).trans rfl, (qa2 BK279.out 4).trans rfl, (qa2 BK279.out 5).trans rfl, (qa2 BK279.out 6).trans rfl, (qa2 BK279.out 7).trans rfl, (qa2 BK279.out 8).trans rfl, ((HB.out.cell (World.block_lt_of_cell? w _ hw280_0)).trans hw280_0), ((HB.out.cell (World.block_lt_of_cell? w _ hw280_1)).trans hw280_1), ((HB.out.cell (World.block_lt_of_cell? w _ hw280_2)).trans hw280_2), ((HB.out.cell (World.block_lt_of_cell? w _ hw280_3)).trans hw280_3), ((HB.out.cell (World.block_lt_of_cell? w _ hw280_4)).trans hw280_4), ((HB.out.cell (World.block_lt_of_cell? w _ hw280_5)).trans hw280_5), ((HB.out.cell (World.block_lt_of_cell? w _ hw280_6)).trans hw280_6), ((HB.out.cell (World.block_lt_of_cell? w _ hw280_7)).trans hw280_7), ((HB.out.cell (World.block_lt_of_cell? w _ hw280_8)).trans hw280_8), ((HB.out.cell (World.block_lt_of_cell? w _ hw281_0)).trans hw281_0), ((HB.out.cell (World.block_lt_of_cell? w _ hw281_1)).trans hw281_1), ((HB.out.cell (World.block_lt_of_cell? w _ hw281_2)).trans hw281_2), ((HB.out.cell (World.block_lt_of_cell? w _ hw281_3)).trans hw281_3), ((HB.out.cell (World.block_lt_of_cell? w _ hw281_4)).trans hw281_4), ((HB.out.cell (World.block_lt_of_cell? w _ hw281_5)).trans hw281_5), ((HB.out.cell (World.block_lt_of_cell? w _ hw281_6)).trans hw281_6), ((HB.out.cell (World.block_lt_of_cell? w _ hw281_7)).trans hw281_7), ((HB.out.cell (World.block_lt_of_cell? w _ hw281_8)).trans hw281_8)⟩ (fun hHeld => ?_)
          clear hK K
          refine norm_ (a' := ?_) ?_ ?_
          rotate_left
          ·show Act.put _ (some 65) _ = _
           simp only [Act.put, List.setIfInBounds_toArray, List.set_cons_zero, List.set_cons_succ, qbk, qcl]
           rfl
          refine qgk (i := 11) (N := some 66) (v := ?_) (a' := ?_) #[true, true, true, true, true, true, true, true, true, true, true, true] rfl rfl (qfi HT_.out (by kernel_rfl)) (fun _ _ _ h => h) (Or.inl ⟨by rfl, ?_⟩) ?_ ?_
          rotate_left
          ·intro w'
           go_simp
           with_reducible rfl
          rotate_left
          ·simp only [Act.put, List.setIfInBounds_toArray, List.set_cons_zero, List.set_cons_succ, qbk, qcl]
           rfl
          refine done_ (done_of HT_.out (by kernel_rfl)) ?_
          try go_wp2
          go_roundg k2
          case measure => have := HJ2.out; have := HK2.out; omega
          case rel => exact ⟨(wrap64 (x5_2 + 1)), (by first | rfl | (simp; done) | (simp [*]; done) | (exfalso; simp only [decide_eq_true_eq] at *; omega)), H', ⟨by have := HJ2.out; have := HK2.out; omega⟩, ⟨by (with_reducible repeat (first | refine qa4 ?_ _ | refine qa5 ?_ | refine qa3 ?_ _)); exact BK278.out⟩, ⟨by (with_reducible repeat (first | refine qa4 ?_ _ | refine qa5 ?_ | refine qa3 ?_ _)); exact BK279.out⟩, ⟨by repeat (first | (with_reducible first | exact HB.out | apply qa6 | apply qa7 | apply qa8 | refine qa9 ?_ GE278.out | refine qa9 ?_ GE279.out) | exact HB.out)⟩⟩
         ·replace c34 := Bool.eq_false_iff.mpr c34
          subst c34
          have H1 : (some false) = some true := by rw [if_neg (show ¬ (false = true) by decide)] at H; exact H
          clear H
          have H := H1
          clear H1
          cases Option.some.inj H
        ·rw [if_neg c32] at H
         exact absurd H (by simp)
       ·rw [if_neg c31] at H
        exact absurd H (by simp)
      ·rw [if_neg c30] at H
       have c30b0 : decide (x5_2 < (l0_8.length : Int)) = false := decide_eq_false c30
       clear c30
       have hr_ := qa0.mk (Option.some.inj H)
       have hnb43 := NB278_279.out
       have hnc43 := NB279_278.out
       have hcz44_0 : wr.cell? ⟨gb278, 0, none⟩ = some (.int .i64 a0_0) := (qa2 BK278.out 0).trans rfl
       have hcz44_1 : wr.cell? ⟨gb278, 1, none⟩ = some (.int .u64 a0_1) := (qa2 BK278.out 1).trans rfl
       have hcz44_2 : wr.cell? ⟨gb278, 2, none⟩ = some (.int .u64 a0_2) := (qa2 BK278.out 2).trans rfl
       have hcz44_3 : wr.cell? ⟨gb278, 3, none⟩ = some (.int .u64 a0_3) := (qa2 BK278.out 3).trans rfl
       have hcz44_4 : wr.cell? ⟨gb278, 4, none⟩ = some (.int .u64 a0_4) := (qa2 BK278.out 4).trans rfl
       have hcz44_5 : wr.cell? ⟨gb278, 5, none⟩ = some (.int .i64 a0_5) := (qa2 BK278.out 5).trans rfl
       have hcz44_6 : wr.cell? ⟨gb278, 6, none⟩ = some (.int .i64 a0_6) := (qa2 BK278.out 6).trans rfl
       have hcz44_7 : wr.cell? ⟨gb278, 7, none⟩ = some (.int .i64 a0_7) := (qa2 BK278.out 7).trans rfl
       have hcz44_8 : wr.cell? ⟨gb278, 8, none⟩ = some (.slice A0_8 l0_8.length c0_8) := (qa2 BK278.out 8).trans rfl
       have hfz44_0 := qa1 BK278.out 0
       have hfz44_1 := qa1 BK278.out 1
       have hfz44_2 := qa1 BK278.out 2
       have hfz44_3 := qa1 BK278.out 3
       have hfz44_4 := qa1 BK278.out 4
       have hfz44_5 := qa1 BK278.out 5
       have hfz44_6 := qa1 BK278.out 6
       have hfz44_7 := qa1 BK278.out 7
       have hfz44_8 := qa1 BK278.out 8
       go_wp2
       go_ret
       have hr2_ := hr_.out
       exact ⟨by first | rfl | (simp only [wrap_wrap]; done) | (simp only [wrap_wrap]; rfl) | (simp [qah, qai] <;> rfl) | (simp [*, qah, qai] <;> rfl), by repeat (first | (with_reducible first | exact HB.out | apply qa6 | apply qa7 | apply qa8 | refine qa9 ?_ GE278.out | refine qa9 ?_ GE279.out) | exact HB.out)⟩
end Go.Proofs.Ytcmipoicnonaeaa.F
end
