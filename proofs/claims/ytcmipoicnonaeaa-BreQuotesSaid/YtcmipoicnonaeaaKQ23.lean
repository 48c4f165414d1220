/- Texts of this claim, 23 of 28: F19, E24. -/

import Derived.Test.YtcmipoicnonaeaaKQ4
import Derived.Test.YtcmipoicnonaeaaKQ22
section
namespace Go.Proofs.Ytcmipoicnonaeaa.F
open Go.RowKit Go.Proofs.YtcmipoicnonaeaaW.PrintWords Go.Proofs.YtcmipoicnonaeaaW.PrintLast Go.Proofs.YtcmipoicnonaeaaW.PrintMore
attribute [local go_sem] qbx qbv qcc qca qbl qbk qbw qbu
set_option linter.unusedVariables false
set_option linter.unusedSimpArgs false
def qb2.l0 : Nat → ByteArray → Int → Int → Int → Int → Int → Option (Int × Int × Int × Int)
 | 0, _, _, _, _, _, _ => none
 | k + 1, x0, x4, x307000, x307001, x307002, x307003 => if x4 < (x0.size : Int) then (if 0 ≤ x4 then ((qcm.f x307000 x307001 x307002 x307003 (wrap64 (bt x0 x4))).bind fun bt307 => (qb2.l0 k x0 (wrap64 (x4 + 1)) bt307.1 bt307.2.1 bt307.2.2.1 bt307.2.2.2)) else (none)) else (some (x307000, x307001, x307002, x307003))
def qb2.f (k : Nat) (a0 : ByteArray) : Option (Int × Int × Int × Int) := qb2.l0 k a0 0 0 0 0 0
theorem qb2.qd0 : ∀ k, (∀ y0 y1 y2 y3 y4 y5, LeO (qb2.l0 k y0 y1 y2 y3 y4 y5) (qb2.l0 (k + 1) y0 y1 y2 y3 y4 y5))
 | 0 => fun _ _ _ _ _ _ r h => by simp [qb2.l0] at h
 | k + 1 => by
  have ih0 := qb2.qd0 k
  ·intro y0 y1 y2 y3 y4 y5
   unfold qb2.l0
   repeat' first
   | (with_reducible exact ih0 _ _ _ _ _ _)
   | (with_reducible exact LeO.refl _)
   | (with_reducible exact LeO.none _)
   | (with_reducible refine LeO.ite ?_ ?_)
   | (with_reducible refine LeO.bind ?_ (fun _ => ?_))
   | exact ih0 _ _ _ _ _ _
   | exact LeO.none _
   | refine LeO.ite ?_ ?_
   | refine LeO.bind ?_ (fun _ => ?_)
theorem qb2.mono : ∀ a0 k, LeO (qb2.f k a0) (qb2.f (k + 1) a0) := by
 intro a0 k
 have ih0 := qb2.qd0 k
 unfold qb2.f
 repeat' first
   | (with_reducible exact ih0 _ _ _ _ _ _)
   | (with_reducible exact LeO.refl _)
   | (with_reducible exact LeO.none _)
   | (with_reducible refine LeO.ite ?_ ?_)
   | (with_reducible refine LeO.bind ?_ (fun _ => ?_))
   | exact ih0 _ _ _ _ _ _
   | exact LeO.none _
   | refine LeO.ite ?_ ?_
   | refine LeO.bind ?_ (fun _ => ?_)
set_option maxHeartbeats 8000000 in
set_option maxRecDepth 100000 in
theorem qb2.calls (k : Nat) (a0 : ByteArray) (r1 : Int) (r2 : Int) (r3 : Int) (r4 : Int) (w : World) (h : qb2.f k a0 = some (r1, r2, r3, r4)) :
  Calls Try.prog 19 #[.string a0] w fun e w' => e = .returned (.agg #[.int .u64 r1, .int .u64 r2, .int .u64 r3, .int .u64 r4]) ∧ Below w.heap.size w w' := by
 have hu24 := Try.underlying24
 have HB := qa0.mk (Below.refl w.heap.size w)
 have H : (qb2.l0 k a0 0 0 0 0 0) = some (r1, r2, r3, r4) := h
 clear h
 have H' := qa0.mk H
 clear H
 go_enter Try.func19, Try.ntmps19
 go_wp2_with (first | ((with_reducible refine qba (N := 2) rfl ?_); refine qbb ?hg (N := 2) ?hd (cs := #[.int .u64 0, .int .u64 0, .int .u64 0, .int .u64 0]) (t := 24) ?hr ?_; (case hd => rfl); (case hg => rfl); (case hr => first | (go_simp; done) | (go_simp; rfl)); intro gb305 hg w2 hbox hb; have n0_ := qa0.mk (qat (by repeat (first | (with_reducible first | exact HB.out | apply qa6 | apply qa7 | apply qa9) | exact HB.out)) hb); have n1_ := qa0.mk (hbox); have n2_ := qa0.mk ((by rw [hg]; exact (qar (by repeat (first | (with_reducible first | exact HB.out | apply qa6 | apply qa7 | apply qa9) | exact HB.out))) : w.heap.size ≤ gb305)); have n3_ := qa0.mk ((by rw [hg]; exact (qar (by repeat (first | (with_reducible first | exact HB.out | apply qa6 | apply qa7 | apply qa9) | exact HB.out))) : w.heap.size ≤ gb305)); clear HB; have HB := n0_; have BK305 := n1_; have GW305 := n2_; have GE305 := n3_; clear n0_ n1_ n2_ n3_; clear hb hbox hg) | ((with_reducible refine qba (N := 3) rfl ?_); refine qbb ?hg (N := 3) ?hd (cs := #[.int .u64 0, .int .u64 0, .int .u64 0, .int .u64 0]) (t := 24) ?hr ?_; (case hd => rfl); (case hg => rfl); (case hr => first | (go_simp; done) | (go_simp; rfl)); intro gb306 hg w3 hbox hb; have n0_ := qa0.mk (qai (g := gb305) (o := .cells #[.int .u64 0, .int .u64 0, .int .u64 0, .int .u64 0] 24 (0, 0)) (by (with_reducible repeat (first | refine qa4 ?_ _ | refine qa5 ?_ | refine qa3 ?_ _)); exact BK305.out) hb); have n1_ := qa0.mk (qat (by repeat (first | (with_reducible first | exact HB.out | apply qa6 | apply qa7 | apply qa9 | refine qa8 ?_ GE305.out) | exact HB.out)) hb); have n2_ := qa0.mk (hbox); have n3_ := qa0.mk ((by rw [hg]; exact (qar (by repeat (first | (with_reducible first | exact HB.out | apply qa6 | apply qa7 | apply qa9 | refine qa8 ?_ GE305.out) | exact HB.out))) : w.heap.size ≤ gb306)); have n4_ := qa0.mk ((by rw [hg]; exact (qar (by repeat (first | (with_reducible first | exact HB.out | apply qa6 | apply qa7 | apply qa9 | refine qa8 ?_ GE305.out) | exact HB.out))) : w.heap.size ≤ gb306)); have n5_ := qa0.mk ((by rw [hg]; exact Nat.ne_of_lt (qam (g := gb305) (o := .cells #[.int .u64 0, .int .u64 0, .int .u64 0, .int .u64 0] 24 (0, 0)) (by (with_reducible repeat (first | refine qa4 ?_ _ | refine qa5 ?_ | refine qa3 ?_ _)); exact BK305.out)) : gb305 ≠ gb306)); have n6_ := qa0.mk ((by rw [hg]; exact Nat.ne_of_gt (qam (g := gb305) (o := .cells #[.int .u64 0, .int .u64 0, .int .u64 0, .int .u64 0] 24 (0, 0)) (by (with_reducible repeat (first | refine qa4 ?_ _ | refine qa5 ?_ | refine qa3 ?_ _)); exact BK305.out)) : gb306 ≠ gb305)); clear BK305; clear HB; have BK305 := n0_; have HB := n1_; have BK306 := n2_; have GW306 := n3_; have GE306 := n4_; have NB305_306 := n5_; have NB306_305 := n6_; clear n0_ n1_ n2_ n3_ n4_ n5_ n6_; clear hb hbox hg))
 go_loopg [4] k (fun kq v4 w' => ∃ (x4_1 : Int) (x307000_1 : Int) (x307001_1 : Int) (x307002_1 : Int) (x307003_1 : Int), v4 = .int .i64 x4_1 ∧ qa0 (qb2.l0 kq a0 x4_1 x307000_1 x307001_1 x307002_1 x307003_1 = some (r1, r2, r3, r4)) ∧ qa0 (kq ≤ k) ∧ qa0 (w'.heap[gb305]? = some (.cells #[.int .u64 0, .int .u64 0, .int .u64 0, .int .u64 0] 24 (0, 0))) ∧ qa0 (w'.heap[gb306]? = some (.cells #[.int .u64 x307000_1, .int .u64 x307001_1, .int .u64 x307002_1, .int .u64 x307003_1] 24 (0, 0))) ∧ qa0 (Below w.heap.size w w'))
 case atStart => exact ⟨(0), (0), (0), (0), (0), (by first | rfl | (simp; done) | (simp [*]; done) | (exfalso; simp only [decide_eq_true_eq] at *; omega)), H', ⟨Nat.le_refl _⟩, ⟨by (with_reducible repeat (first | refine qa4 ?_ _ | refine qa5 ?_ | refine qa3 ?_ _)); exact BK305.out⟩, ⟨by (with_reducible repeat (first | refine qa4 ?_ _ | refine qa5 ?_ | refine qa3 ?_ _)); exact BK306.out⟩, ⟨by repeat (first | (with_reducible first | exact HB.out | apply qa6 | apply qa7 | apply qa9 | refine qa8 ?_ GE305.out | refine qa8 ?_ GE306.out) | exact HB.out)⟩⟩
 case round =>
  clear H'
  try clear c1
  try clear p2
  obtain ⟨x4_1, x307000_1, x307001_1, x307002_1, x307003_1, rfl, HA, HK1, BK305, BK306, HB⟩ := hrel
  cases gk with
  | zero => exact absurd HA.out (by simp [qb2.l0])
  | succ k1 =>
   have H := HA.out
   clear HA
   simp only [qb2.l0] at H
   by_cases c4 : x4_1 < (a0.size : Int)
   ·rw [if_pos c4] at H
    have c4b0 : decide (x4_1 < (a0.size : Int)) = true := decide_eq_true c4
    clear c4
    by_cases c5 : 0 ≤ x4_1
    ·rw [if_pos c5] at H
     have c5b0 : decide (0 ≤ x4_1) = true := decide_eq_true c5
     clear c5
     replace H := Option.bind_eq_some_iff.mp H
     obtain ⟨⟨t307, t308, t309, t310⟩, A70, H⟩ := H
     replace H : (qb2.l0 k1 a0 (wrap64 (x4_1 + 1)) t307 t308 t309 t310) = some (r1, r2, r3, r4) := H
     have A7 := qa0.mk A70
     clear A70
     have H' := qa0.mk H
     clear H
     try go_wp2
     have n0_ := qa0.mk (qa5 BK305.out)
     have n1_ := qa0.mk (qa5 BK306.out)
     have n2_ := qa0.mk (qa9 HB.out)
     clear BK305
     clear BK306
     clear HB
     have BK305 := n0_
     have BK306 := n1_
     have HB := n2_
     clear n0_ n1_ n2_
     have p6 : 0 ≤ (x4_1 : Int) := of_decide_eq_true (by first | (with_reducible assumption) | assumption)
     have q6 : x4_1 < (a0.size : Int) := of_decide_eq_true (by first | (with_reducible assumption) | assumption)
     have hx6 := qbs a0 x4_1
     replace p6 := eq_true p6
     replace q6 := eq_true q6
     refine qct (n := 7) (S := fun w' => w'.cell? ⟨gb306, 0, none⟩ = some (.int .u64 x307000_1) ∧ w'.cell? ⟨gb306, 1, none⟩ = some (.int .u64 x307001_1) ∧ w'.cell? ⟨gb306, 2, none⟩ = some (.int .u64 x307002_1) ∧ w'.cell? ⟨gb306, 3, none⟩ = some (.int .u64 x307003_1)) (ds := [6]) #[false, false, false, false, false, false, false] (by kernel_rfl) rfl rfl ⟨(qa2 BK306.out 0).trans rfl, (qa2 BK306.out 1).trans rfl, (qa2 BK306.out 2).trans rfl, (qa2 BK306.out 3).trans rfl⟩ (fun hHeld => ?_)
     generalize wr.drew = w8 at BK305 BK306 HB hHeld ⊢
     refine qe1 (i := 1) (N := some 12) (v := ?_) (a' := ?_) #[false, true, false, false, false, false, false] rfl rfl (by kernel_rfl) (fun _ _ _ h => h) (Or.inl ⟨by rfl, ?_⟩) ?_ ?_
     rotate_left
     ·intro w'
      go_simp
      with_reducible rfl
     rotate_left
     ·simp only [Act.put, List.setIfInBounds_toArray, List.set_cons_zero, List.set_cons_succ, qbe, qcg]
      rfl
     refine qe1 (i := 2) (N := some 13) (v := ?_) (a' := ?_) #[false, true, true, false, false, false, false] rfl rfl (by kernel_rfl) (fun _ _ _ h => h) (Or.inl ⟨by rfl, ?_⟩) ?_ ?_
     rotate_left
     ·intro w'
      go_simp
      with_reducible rfl
     rotate_left
     ·simp only [Act.put, List.setIfInBounds_toArray, List.set_cons_zero, List.set_cons_succ, qbe, qcg]
      rfl
     refine qh2 (i := 0) (N := some 11) (v := ?_) (a' := ?_) #[true, true, true, false, false, false, false] rfl rfl (by kernel_rfl) (fun _ _ _ h => h) (Or.inl ⟨by rfl, ?_⟩) hHeld ?_ ?_
     rotate_left
     ·rintro w' ⟨s0, s1, s2, s3⟩
      go_simp
      with_reducible rfl
     rotate_left
     ·simp only [Act.put, List.setIfInBounds_toArray, List.set_cons_zero, List.set_cons_succ, qbe, qcg]
      rfl
     refine qh2 (i := 3) (N := some 14) (v := ?_) (a' := ?_) #[true, true, true, true, false, false, false] rfl rfl (by kernel_rfl) (fun _ _ _ h => h) (Or.inl ⟨by rfl, ?_⟩) hHeld ?_ ?_
     rotate_left
     ·rintro w' ⟨s0, s1, s2, s3⟩
      go_simp
      with_reducible rfl
     rotate_left
     ·simp only [Act.put, List.setIfInBounds_toArray, List.set_cons_zero, List.set_cons_succ, qbe, qcg]
      rfl
     refine qe1 (i := 4) (N := some 15) (v := ?_) (a' := ?_) #[true, true, true, true, true, false, false] rfl rfl (by kernel_rfl) (fun _ _ _ h => h) (Or.inl ⟨by rfl, ?_⟩) ?_ ?_
     rotate_left
     ·intro w'
      go_simp
      with_reducible rfl
     rotate_left
     ·simp only [Act.put, List.setIfInBounds_toArray, List.set_cons_zero, List.set_cons_succ, qbe, qcg]
      rfl
     refine one_ (i := 5) (N := some 16) #[true, true, true, true, true, true, false] rfl rfl (by kernel_rfl) (by decide) (fun K hK => ?_)
     refine qdm Try.func29 (by kernel_rfl) rfl #[.agg #[.int .u64 x307000_1, .int .u64 x307001_1, .int .u64 x307002_1, .int .u64 x307003_1], .int .i64 (wrap64 (bt a0 x4_1))] (by rfl) rfl rfl (by (try simp only [List.map_toArray, List.map_cons, List.map_nil]); first | done | rfl | (simp only [List.length_drop, List.length_take]; rfl)) ?_
     with_reducible refine (qcm.calls x307000_1 x307001_1 x307002_1 x307003_1 (wrap64 (bt a0 x4_1)) t307 t308 t309 t310 _ A7.out).mono ?_
     rintro e w9 ⟨rfl, hb⟩
     refine ⟨_, rfl, ?_⟩
     have n0_ := qa0.mk (qai (g := gb305) (o := .cells #[.int .u64 0, .int .u64 0, .int .u64 0, .int .u64 0] 24 (0, 0)) (by (with_reducible repeat (first | refine qa4 ?_ _ | refine qa5 ?_ | refine qa3 ?_ _)); exact BK305.out) hb)
     have n1_ := qa0.mk (qai (g := gb306) (o := .cells #[.int .u64 x307000_1, .int .u64 x307001_1, .int .u64 x307002_1, .int .u64 x307003_1] 24 (0, 0)) (by (with_reducible repeat (first | refine qa4 ?_ _ | refine qa5 ?_ | refine qa3 ?_ _)); exact BK306.out) hb)
     have n2_ := qa0.mk (qat (by repeat (first | (with_reducible first | exact HB.out | apply qa6 | apply qa7 | apply qa9 | refine qa8 ?_ GE305.out | refine qa8 ?_ GE306.out) | exact HB.out)) hb)
     clear BK305
     clear BK306
     clear HB
     have BK305 := n0_
     have BK306 := n1_
     have HB := n2_
     clear n0_ n1_ n2_
     (try clear hb)
     (try clear hb2)
     (try clear hk)
     (try clear hi)
     refine hK.out _ _ ⟨(qa2 BK306.out 0).trans rfl, (qa2 BK306.out 1).trans rfl, (qa2 BK306.out 2).trans rfl, (qa2 BK306.out 3).trans rfl⟩ (fun hHeld => ?_)
     clear hK K
     refine norm_ (a' := ?_) ?_ ?_
     rotate_left
     ·show Act.put _ (some 16) _ = _
      simp only [Act.put, List.setIfInBounds_toArray, List.set_cons_zero, List.set_cons_succ, qbe, qcg]
      rfl
     refine last_ (i := 6) (N := none) #[true, true, true, true, true, true, true] rfl rfl (by kernel_rfl) (by decide) (fun K hK => ?_)
     have hs10 : w9.cell? ⟨gb306, 0, none⟩ = some (.int .u64 x307000_1) := (qa2 BK306.out 0).trans rfl
     have hfs10 := qa1 BK306.out 0
     have hns10_0 := NB305_306.out
     have hms10_0 := NB306_305.out
     have hs11 : w9.cell? ⟨gb306, 1, none⟩ = some (.int .u64 x307001_1) := (qa2 BK306.out 1).trans rfl
     have hfs11 := qa1 BK306.out 1
     have hns11_0 := NB305_306.out
     have hms11_0 := NB306_305.out
     have hs12 : w9.cell? ⟨gb306, 2, none⟩ = some (.int .u64 x307002_1) := (qa2 BK306.out 2).trans rfl
     have hfs12 := qa1 BK306.out 2
     have hns12_0 := NB305_306.out
     have hms12_0 := NB306_305.out
     have hs13 : w9.cell? ⟨gb306, 3, none⟩ = some (.int .u64 x307003_1) := (qa2 BK306.out 3).trans rfl
     have hfs13 := qa1 BK306.out 3
     have hns13_0 := NB305_306.out
     have hms13_0 := NB306_305.out
     refine qdh (w1 := ?_) (by rfl) rfl ?_ ?_
     rotate_left
     ·go_simp
      rfl
     refine hK.out _ _ ?_
     clear hK K
     refine done_ (by kernel_rfl) ?_
     try go_wp2
     go_roundg k1
     case measure => have := HK1.out; omega
     case rel => exact ⟨(wrap64 (x4_1 + 1)), (t307), (t308), (t309), (t310), (by first | rfl | (simp; done) | (simp [*]; done) | (exfalso; simp only [decide_eq_true_eq] at *; omega)), H', ⟨by have := HK1.out; omega⟩, ⟨by (with_reducible repeat (first | refine qa4 ?_ _ | refine qa5 ?_ | refine qa3 ?_ _)); refine qah ?_ NB305_306.out _; (with_reducible repeat (first | refine qa4 ?_ _ | refine qa5 ?_ | refine qa3 ?_ _)); refine qah ?_ NB305_306.out _; (with_reducible repeat (first | refine qa4 ?_ _ | refine qa5 ?_ | refine qa3 ?_ _)); refine qah ?_ NB305_306.out _; (with_reducible repeat (first | refine qa4 ?_ _ | refine qa5 ?_ | refine qa3 ?_ _)); refine qah ?_ NB305_306.out _; (with_reducible repeat (first | refine qa4 ?_ _ | refine qa5 ?_ | refine qa3 ?_ _)); exact BK305.out⟩, ⟨by (with_reducible repeat (first | refine qa4 ?_ _ | refine qa5 ?_ | refine qa3 ?_ _)); refine qaa (cs := #[.int .u64 t307, .int .u64 t308, .int .u64 t309, .int .u64 x307003_1]) ?_ 3 _ rfl; (with_reducible repeat (first | refine qa4 ?_ _ | refine qa5 ?_ | refine qa3 ?_ _)); refine qaa (cs := #[.int .u64 t307, .int .u64 t308, .int .u64 x307002_1, .int .u64 x307003_1]) ?_ 2 _ rfl; (with_reducible repeat (first | refine qa4 ?_ _ | refine qa5 ?_ | refine qa3 ?_ _)); refine qaa (cs := #[.int .u64 t307, .int .u64 x307001_1, .int .u64 x307002_1, .int .u64 x307003_1]) ?_ 1 _ rfl; (with_reducible repeat (first | refine qa4 ?_ _ | refine qa5 ?_ | refine qa3 ?_ _)); refine qaa (cs := #[.int .u64 x307000_1, .int .u64 x307001_1, .int .u64 x307002_1, .int .u64 x307003_1]) ?_ 0 _ rfl; (with_reducible repeat (first | refine qa4 ?_ _ | refine qa5 ?_ | refine qa3 ?_ _)); exact BK306.out⟩, ⟨by repeat (first | (with_reducible first | exact HB.out | apply qa6 | apply qa7 | apply qa9 | refine qa8 ?_ GE305.out | refine qa8 ?_ GE306.out) | exact HB.out)⟩⟩
    ·rw [if_neg c5] at H
     exact absurd H (by simp)
   ·rw [if_neg c4] at H
    have c4b0 : decide (x4_1 < (a0.size : Int)) = false := decide_eq_false c4
    clear c4
    simp only [Option.some.injEq, Prod.mk.injEq] at H
    obtain ⟨rfl, rfl, rfl, rfl⟩ := H
    have hnb14 := NB306_305.out
    have hnc14 := NB305_306.out
    have hcz15_0 : wr.cell? ⟨gb306, 0, none⟩ = some (.int .u64 x307000_1) := (qa2 BK306.out 0).trans rfl
    have hcz15_1 : wr.cell? ⟨gb306, 1, none⟩ = some (.int .u64 x307001_1) := (qa2 BK306.out 1).trans rfl
    have hcz15_2 : wr.cell? ⟨gb306, 2, none⟩ = some (.int .u64 x307002_1) := (qa2 BK306.out 2).trans rfl
    have hcz15_3 : wr.cell? ⟨gb306, 3, none⟩ = some (.int .u64 x307003_1) := (qa2 BK306.out 3).trans rfl
    have hfz15_0 := qa1 BK306.out 0
    have hfz15_1 := qa1 BK306.out 1
    have hfz15_2 := qa1 BK306.out 2
    have hfz15_3 := qa1 BK306.out 3
    have hcz16_0 : wr.cell? ⟨gb305, 0, none⟩ = some (.int .u64 0) := (qa2 BK305.out 0).trans rfl
    have hcz16_1 : wr.cell? ⟨gb305, 1, none⟩ = some (.int .u64 0) := (qa2 BK305.out 1).trans rfl
    have hcz16_2 : wr.cell? ⟨gb305, 2, none⟩ = some (.int .u64 0) := (qa2 BK305.out 2).trans rfl
    have hcz16_3 : wr.cell? ⟨gb305, 3, none⟩ = some (.int .u64 0) := (qa2 BK305.out 3).trans rfl
    have hfz16_0 := qa1 BK305.out 0
    have hfz16_1 := qa1 BK305.out 1
    have hfz16_2 := qa1 BK305.out 2
    have hfz16_3 := qa1 BK305.out 3
    go_wp2
    refine bodyPost_ret (results_cell_row rfl _ _ gb305 24 #[.int .u64 x307000_1, .int .u64 x307001_1, .int .u64 x307002_1, .int .u64 x307003_1] (0, 0) _ rfl (by (with_reducible repeat (first | refine qa4 ?_ _ | refine qa5 ?_ | refine qa3 ?_ _)); refine qaa (cs := #[.int .u64 x307000_1, .int .u64 x307001_1, .int .u64 x307002_1, .int .u64 0]) ?_ 3 _ rfl; (with_reducible repeat (first | refine qa4 ?_ _ | refine qa5 ?_ | refine qa3 ?_ _)); refine qaa (cs := #[.int .u64 x307000_1, .int .u64 x307001_1, .int .u64 0, .int .u64 0]) ?_ 2 _ rfl; (with_reducible repeat (first | refine qa4 ?_ _ | refine qa5 ?_ | refine qa3 ?_ _)); refine qaa (cs := #[.int .u64 x307000_1, .int .u64 0, .int .u64 0, .int .u64 0]) ?_ 1 _ rfl; (with_reducible repeat (first | refine qa4 ?_ _ | refine qa5 ?_ | refine qa3 ?_ _)); refine qaa (cs := #[.int .u64 0, .int .u64 0, .int .u64 0, .int .u64 0]) ?_ 0 _ rfl; (with_reducible repeat (first | refine qa4 ?_ _ | refine qa5 ?_ | refine qa3 ?_ _)); exact BK305.out) Try.underlying24 rfl (by kernel_rfl)) rfl ?_
    exact ⟨by first | rfl | (simp only [wrap_wrap]; done) | (simp only [wrap_wrap]; rfl) | (simp [qak, qal] <;> rfl) | (simp [*, qak, qal] <;> rfl), by repeat (first | (with_reducible first | exact HB.out | apply qa6 | apply qa7 | apply qa9 | refine qa8 ?_ GE305.out | refine qa8 ?_ GE306.out) | exact HB.out)⟩
end Go.Proofs.Ytcmipoicnonaeaa.F
end
section
namespace Go.Proofs.Ytcmipoicnonaeaa.F
open Go.RowKit Go.Proofs.YtcmipoicnonaeaaW.PrintWords Go.Proofs.YtcmipoicnonaeaaW.PrintLast Go.Proofs.YtcmipoicnonaeaaW.PrintMore
attribute [local go_sem] qbx qbv qcc qca qbl qbk qbw qbu
set_option linter.unusedVariables false
set_option linter.unusedSimpArgs false
theorem eqA24 (d : Nat) (w : World) (x0 y0 : Int) (x1 y1 : Int) (x2 y2 : Int) (x3 y3 : Int) :
    (Op.equalIn (d + 2) 24 (.agg #[.int .u64 x0, .int .u64 x1, .int .u64 x2, .int .u64 x3]) (.agg #[.int .u64 y0, .int .u64 y1, .int .u64 y2, .int .u64 y3])).run Try.prog w = .ok (x0 == y0 && (x1 == y1 && (x2 == y2 && (x3 == y3)))) w := by
  have hs : ∀ w, (sizeOf 22).run Try.prog w = .ok 1 w := fun w => by go_simp
  have he : ∀ (x y : Int) (w : World), (Op.equalIn (d + 1) 22 (.int .u64 x) (.int .u64 y)).run Try.prog w = .ok (x == y) w := fun x y w => by go_simp
  have hp : ∀ (v0_ v1_ v2_ v3_ : Value) (w : World), (part 22 #[v0_, v1_, v2_, v3_] 0).run Try.prog w = .ok v0_ w ∧ (part 22 #[v0_, v1_, v2_, v3_] 1).run Try.prog w = .ok v1_ w ∧ (part 22 #[v0_, v1_, v2_, v3_] 2).run Try.prog w = .ok v2_ w ∧ (part 22 #[v0_, v1_, v2_, v3_] 3).run Try.prog w = .ok v3_ w := fun v0_ v1_ v2_ v3_ w => ⟨by go_simp, by go_simp, by go_simp, by go_simp⟩
  rw [Op.equalIn]
  simp only [Sem.run_bind, run_underlying Try.underlying24, Result.andThen_ok, hs]
  simp [List.range', List.forIn_cons, hp, he]
  by_cases h0 : x0 = y0 <;> by_cases h1 : x1 = y1 <;> by_cases h2 : x2 = y2 <;> by_cases h3 : x3 = y3 <;> simp [h0, h1, h2, h3]
end Go.Proofs.Ytcmipoicnonaeaa.F
end
