/- Texts of this claim, 9 of 29: F49. -/

import Derived.Test.YtcmipoicnonaeaaKS4
import Derived.Test.YtcmipoicnonaeaaKS7
import Derived.Test.YtcmipoicnonaeaaKS8
section
namespace Go.Proofs.Ytcmipoicnonaeaa.F
open Go.RowKit Go.Proofs.YtcmipoicnonaeaaW.PrintWords Go.Proofs.YtcmipoicnonaeaaW.PrintLast Go.Proofs.YtcmipoicnonaeaaW.PrintMore
attribute [local go_sem] qbs qbr qc7 qc0 qbh qbj qbp qbq
set_option linter.unusedVariables false
set_option linter.unusedSimpArgs false
def qb6.j0 : Nat → Int → Int → Bool → Option (Int × Int × Int × Int × Int × Int × Int × Int × Int × Int)
 | 0, _, _, _ => none
 | k + 1, x1, x8, x82 => if x82 = true then (some (6, x1, 0, 0, 0, 0, (x8 - 48) % 256, 0, 0, wrap64 (x1 + 2))) else ((qdr.f x8).bind fun t164 => (if t164 = true then ((qbx.f x1 12).bind fun bt165 => (some (bt165.1, bt165.2.1, bt165.2.2.1, bt165.2.2.2.1, bt165.2.2.2.2.1, bt165.2.2.2.2.2.1, bt165.2.2.2.2.2.2.1, bt165.2.2.2.2.2.2.2.1, bt165.2.2.2.2.2.2.2.2, x1))) else ((qci.f x1 x8).bind fun bt174 => (some (bt174.1, bt174.2.1, bt174.2.2.1, bt174.2.2.2.1, bt174.2.2.2.2.1, bt174.2.2.2.2.2.1, bt174.2.2.2.2.2.2.1, bt174.2.2.2.2.2.2.2.1, bt174.2.2.2.2.2.2.2.2, wrap64 (x1 + 2))))))
def qb6.f (k : Nat) (a0 : ByteArray) (a1 : Int) (a2 : Bool) : Option (Int × Int × Int × Int × Int × Int × Int × Int × Int × Int) := if (wrap64 (a1 + 1)) = (a0.size : Int) then ((qbx.f a1 6).bind fun bt115 => (some (bt115.1, bt115.2.1, bt115.2.2.1, bt115.2.2.2.1, bt115.2.2.2.2.1, bt115.2.2.2.2.2.1, bt115.2.2.2.2.2.2.1, bt115.2.2.2.2.2.2.2.1, bt115.2.2.2.2.2.2.2.2, a1))) else (if 0 ≤ (wrap64 (a1 + 1)) then (if (wrap64 (a1 + 1)) < (a0.size : Int) then (if (bt a0 (wrap64 (a1 + 1))) = 40 then (some (3, a1, 0, 0, 0, 0, 0, 0, 0, wrap64 (a1 + 2))) else (if (bt a0 (wrap64 (a1 + 1))) = 41 then (some (4, a1, 0, 0, 0, 0, 0, 0, 0, wrap64 (a1 + 2))) else (if (bt a0 (wrap64 (a1 + 1))) = 123 then ((qal.f k a0 (wrap64 (a1 + 2))).bind fun bt124 => (if bt124.2.2.2 = true then (if a2 = true then ((qbx.f a1 9).bind fun bt128 => (some (bt128.1, bt128.2.1, bt128.2.2.1, bt128.2.2.2.1, bt128.2.2.2.2.1, bt128.2.2.2.2.2.1, bt128.2.2.2.2.2.2.1, bt128.2.2.2.2.2.2.2.1, bt128.2.2.2.2.2.2.2.2, a1))) else (some (5, a1, 0, 0, 0, 0, bt124.1, bt124.2.1, 0, bt124.2.2.1))) else ((qbx.f a1 9).bind fun bt137 => (some (bt137.1, bt137.2.1, bt137.2.2.1, bt137.2.2.2.1, bt137.2.2.2.2.1, bt137.2.2.2.2.2.1, bt137.2.2.2.2.2.2.1, bt137.2.2.2.2.2.2.2.1, bt137.2.2.2.2.2.2.2.2, a1))))) else (if (bt a0 (wrap64 (a1 + 1))) = 125 then ((qbx.f a1 9).bind fun bt146 => (some (bt146.1, bt146.2.1, bt146.2.2.1, bt146.2.2.2.1, bt146.2.2.2.2.1, bt146.2.2.2.2.2.1, bt146.2.2.2.2.2.2.1, bt146.2.2.2.2.2.2.2.1, bt146.2.2.2.2.2.2.2.2, a1))) else (if (bt a0 (wrap64 (a1 + 1))) = 110 then ((qci.f a1 10).bind fun bt155 => (some (bt155.1, bt155.2.1, bt155.2.2.1, bt155.2.2.2.1, bt155.2.2.2.2.1, bt155.2.2.2.2.2.1, bt155.2.2.2.2.2.2.1, bt155.2.2.2.2.2.2.2.1, bt155.2.2.2.2.2.2.2.2, wrap64 (a1 + 2)))) else (if (bt a0 (wrap64 (a1 + 1))) ≥ 49 then (qb6.j0 k a1 (bt a0 (wrap64 (a1 + 1))) (decide ((bt a0 (wrap64 (a1 + 1))) ≤ 57))) else (qb6.j0 k a1 (bt a0 (wrap64 (a1 + 1))) false))))))) else (none)) else (none))
theorem qb6.qcs : ∀ k, (∀ y0 y1 y2, LeO (qb6.j0 k y0 y1 y2) (qb6.j0 (k + 1) y0 y1 y2))
 | 0 => fun _ _ _ r h => by simp [qb6.j0] at h
 | k + 1 => by
  have ih0 := qb6.qcs k
  ·intro y0 y1 y2
   unfold qb6.j0
   repeat' first
   | (with_reducible exact ih0 _ _ _)
   | (with_reducible exact qal.mono _ _ _)
   | (with_reducible exact LeO.refl _)
   | (with_reducible exact LeO.none _)
   | (with_reducible refine LeO.ite ?_ ?_)
   | (with_reducible refine LeO.bind ?_ (fun _ => ?_))
   | exact ih0 _ _ _
   | exact qal.mono _ _ _
   | exact LeO.none _
   | refine LeO.ite ?_ ?_
   | refine LeO.bind ?_ (fun _ => ?_)
theorem qb6.mono : ∀ a0 a1 a2 k, LeO (qb6.f k a0 a1 a2) (qb6.f (k + 1) a0 a1 a2) := by
 intro a0 a1 a2 k
 have ih0 := qb6.qcs k
 unfold qb6.f
 repeat' first
   | (with_reducible exact ih0 _ _ _)
   | (with_reducible exact qal.mono _ _ _)
   | (with_reducible exact LeO.refl _)
   | (with_reducible exact LeO.none _)
   | (with_reducible refine LeO.ite ?_ ?_)
   | (with_reducible refine LeO.bind ?_ (fun _ => ?_))
   | exact ih0 _ _ _
   | exact qal.mono _ _ _
   | exact LeO.none _
   | refine LeO.ite ?_ ?_
   | refine LeO.bind ?_ (fun _ => ?_)
set_option maxHeartbeats 8000000 in
set_option maxRecDepth 100000 in
theorem qb6.calls (k : Nat) (a0 : ByteArray) (a1 : Int) (a2 : Bool) (r1 : Int) (r2 : Int) (r3 : Int) (r4 : Int) (r5 : Int) (r6 : Int) (r7 : Int) (r8 : Int) (r9 : Int) (r10 : Int) (w : World) (h : qb6.f k a0 a1 a2 = some (r1, r2, r3, r4, r5, r6, r7, r8, r9, r10)) :
  Calls Try.prog 49 #[.string a0, .int .i64 a1, .bool a2] w fun e w' => e = .returned (.tuple #[.agg #[.int .i64 r1, .int .i64 r2, .int .u64 r3, .int .u64 r4, .int .u64 r5, .int .u64 r6, .int .i64 r7, .int .i64 r8, .int .i64 r9], .int .i64 r10]) ∧ Below w.heap.size w w' := by
 have hu67 := Try.underlying67
 have HB := qa0.mk (Below.refl w.heap.size w)
 have H : (if (wrap64 (a1 + 1)) = (a0.size : Int) then ((qbx.f a1 6).bind fun bt115 => (some (bt115.1, bt115.2.1, bt115.2.2.1, bt115.2.2.2.1, bt115.2.2.2.2.1, bt115.2.2.2.2.2.1, bt115.2.2.2.2.2.2.1, bt115.2.2.2.2.2.2.2.1, bt115.2.2.2.2.2.2.2.2, a1))) else (if 0 ≤ (wrap64 (a1 + 1)) then (if (wrap64 (a1 + 1)) < (a0.size : Int) then (if (bt a0 (wrap64 (a1 + 1))) = 40 then (some (3, a1, 0, 0, 0, 0, 0, 0, 0, wrap64 (a1 + 2))) else (if (bt a0 (wrap64 (a1 + 1))) = 41 then (some (4, a1, 0, 0, 0, 0, 0, 0, 0, wrap64 (a1 + 2))) else (if (bt a0 (wrap64 (a1 + 1))) = 123 then ((qal.f k a0 (wrap64 (a1 + 2))).bind fun bt124 => (if bt124.2.2.2 = true then (if a2 = true then ((qbx.f a1 9).bind fun bt128 => (some (bt128.1, bt128.2.1, bt128.2.2.1, bt128.2.2.2.1, bt128.2.2.2.2.1, bt128.2.2.2.2.2.1, bt128.2.2.2.2.2.2.1, bt128.2.2.2.2.2.2.2.1, bt128.2.2.2.2.2.2.2.2, a1))) else (some (5, a1, 0, 0, 0, 0, bt124.1, bt124.2.1, 0, bt124.2.2.1))) else ((qbx.f a1 9).bind fun bt137 => (some (bt137.1, bt137.2.1, bt137.2.2.1, bt137.2.2.2.1, bt137.2.2.2.2.1, bt137.2.2.2.2.2.1, bt137.2.2.2.2.2.2.1, bt137.2.2.2.2.2.2.2.1, bt137.2.2.2.2.2.2.2.2, a1))))) else (if (bt a0 (wrap64 (a1 + 1))) = 125 then ((qbx.f a1 9).bind fun bt146 => (some (bt146.1, bt146.2.1, bt146.2.2.1, bt146.2.2.2.1, bt146.2.2.2.2.1, bt146.2.2.2.2.2.1, bt146.2.2.2.2.2.2.1, bt146.2.2.2.2.2.2.2.1, bt146.2.2.2.2.2.2.2.2, a1))) else (if (bt a0 (wrap64 (a1 + 1))) = 110 then ((qci.f a1 10).bind fun bt155 => (some (bt155.1, bt155.2.1, bt155.2.2.1, bt155.2.2.2.1, bt155.2.2.2.2.1, bt155.2.2.2.2.2.1, bt155.2.2.2.2.2.2.1, bt155.2.2.2.2.2.2.2.1, bt155.2.2.2.2.2.2.2.2, wrap64 (a1 + 2)))) else (if (bt a0 (wrap64 (a1 + 1))) ≥ 49 then (qb6.j0 k a1 (bt a0 (wrap64 (a1 + 1))) (decide ((bt a0 (wrap64 (a1 + 1))) ≤ 57))) else (qb6.j0 k a1 (bt a0 (wrap64 (a1 + 1))) false))))))) else (none)) else (none))) = some (r1, r2, r3, r4, r5, r6, r7, r8, r9, r10) := h
 clear h
 by_cases c4 : (wrap64 (a1 + 1)) = (a0.size : Int)
 ·rw [if_pos c4] at H
  have c4b0 : ((wrap64 (a1 + 1)) == (a0.size : Int)) = true := beq_iff_eq.mpr c4
  have c4b1 : ((wrap64 (a1 + 1)) != (a0.size : Int)) = false := bne_eq_false_iff_eq.mpr c4
  clear c4
  replace H := Option.bind_eq_some_iff.mp H
  obtain ⟨⟨t115, t116, t117, t118, t119, t120, t121, t122, t123⟩, A50, H⟩ := H
  replace H : (some (t115, t116, t117, t118, t119, t120, t121, t122, t123, a1)) = some (r1, r2, r3, r4, r5, r6, r7, r8, r9, r10) := H
  have A5 := qa0.mk A50
  clear A50
  simp only [Option.some.injEq, Prod.mk.injEq] at H
  obtain ⟨rfl, rfl, rfl, rfl, rfl, rfl, rfl, rfl, rfl, rfl⟩ := H
  go_enter Try.func49, Try.ntmps49
  go_wp2_with (first | ((with_reducible refine qb7 (N := 6) rfl ?_); refine qbb ?hg (N := 6) ?hd (cs := #[.int .i64 0, .int .i64 0, .int .u64 0, .int .u64 0, .int .u64 0, .int .u64 0, .int .i64 0, .int .i64 0, .int .i64 0]) (t := 67) ?hr ?_; (case hd => rfl); (case hg => rfl); (case hr => first | (go_simp; done) | (go_simp; rfl)); intro gb114 hg w6 hbox hb; have n0_ := qa0.mk (qap (by repeat (first | (with_reducible first | exact HB.out | apply qa6 | apply qa7 | apply qa8) | exact HB.out)) hb); have n1_ := qa0.mk (hbox); have n2_ := qa0.mk ((by rw [hg]; exact (qaq (by repeat (first | (with_reducible first | exact HB.out | apply qa6 | apply qa7 | apply qa8) | exact HB.out))) : w.heap.size ≤ gb114)); have n3_ := qa0.mk ((by rw [hg]; exact (qaq (by repeat (first | (with_reducible first | exact HB.out | apply qa6 | apply qa7 | apply qa8) | exact HB.out))) : w.heap.size ≤ gb114)); clear HB; have HB := n0_; have BK114 := n1_; have GW114 := n2_; have GE114 := n3_; clear n0_ n1_ n2_ n3_; clear hb hbox hg) | ((with_reducible refine qbc (f := 51) rfl ?_); refine qcc (some 19) rfl rfl Try.func51 (by kernel_rfl) rfl #[.int .i64 a1, .int .i64 6] rfl (by (try simp only [List.map_toArray, List.map_cons, List.map_nil]); first | done | rfl | (simp only [List.length_drop, List.length_take]; rfl)) ?_; (with_reducible refine (qbx.calls a1 6 t115 t116 t117 t118 t119 t120 t121 t122 t123 _ A5.out).mono ?_); rintro e w7 ⟨rfl, hb⟩; refine ⟨_, rfl, ?_⟩; have n0_ := qa0.mk (qae (g := gb114) (o := .cells #[.int .i64 0, .int .i64 0, .int .u64 0, .int .u64 0, .int .u64 0, .int .u64 0, .int .i64 0, .int .i64 0, .int .i64 0] 67 (0, 0)) (by (with_reducible repeat (first | refine qa4 ?_ _ | refine qa5 ?_ | refine qa3 ?_ _)); exact BK114.out) hb); have n1_ := qa0.mk (qap (by repeat (first | (with_reducible first | exact HB.out | apply qa6 | apply qa7 | apply qa8 | refine qa9 ?_ GE114.out) | exact HB.out)) hb); clear BK114; clear HB; have BK114 := n0_; have HB := n1_; clear n0_ n1_; (try clear hb); (try clear hb2); (try clear hk); (try clear hi); have hcz8_0 : w7.cell? ⟨gb114, 0, none⟩ = some (.int .i64 0) := (qa2 BK114.out 0).trans rfl; have hcz8_1 : w7.cell? ⟨gb114, 1, none⟩ = some (.int .i64 0) := (qa2 BK114.out 1).trans rfl; have hcz8_2 : w7.cell? ⟨gb114, 2, none⟩ = some (.int .u64 0) := (qa2 BK114.out 2).trans rfl; have hcz8_3 : w7.cell? ⟨gb114, 3, none⟩ = some (.int .u64 0) := (qa2 BK114.out 3).trans rfl; have hcz8_4 : w7.cell? ⟨gb114, 4, none⟩ = some (.int .u64 0) := (qa2 BK114.out 4).trans rfl; have hcz8_5 : w7.cell? ⟨gb114, 5, none⟩ = some (.int .u64 0) := (qa2 BK114.out 5).trans rfl; have hcz8_6 : w7.cell? ⟨gb114, 6, none⟩ = some (.int .i64 0) := (qa2 BK114.out 6).trans rfl; have hcz8_7 : w7.cell? ⟨gb114, 7, none⟩ = some (.int .i64 0) := (qa2 BK114.out 7).trans rfl; have hcz8_8 : w7.cell? ⟨gb114, 8, none⟩ = some (.int .i64 0) := (qa2 BK114.out 8).trans rfl; have hfz8_0 := qa1 BK114.out 0; have hfz8_1 := qa1 BK114.out 1; have hfz8_2 := qa1 BK114.out 2; have hfz8_3 := qa1 BK114.out 3; have hfz8_4 := qa1 BK114.out 4; have hfz8_5 := qa1 BK114.out 5; have hfz8_6 := qa1 BK114.out 6; have hfz8_7 := qa1 BK114.out 7; have hfz8_8 := qa1 BK114.out 8))
  refine bodyPost_ret (qbv rfl _ _ gb114 67 #[.int .i64 t115, .int .i64 t116, .int .u64 t117, .int .u64 t118, .int .u64 t119, .int .u64 t120, .int .i64 t121, .int .i64 t122, .int .i64 t123] (0, 0) _ rfl (by (with_reducible repeat (first | refine qa4 ?_ _ | refine qa5 ?_ | refine qa3 ?_ _)); refine qaa (cs := #[.int .i64 t115, .int .i64 t116, .int .u64 t117, .int .u64 t118, .int .u64 t119, .int .u64 t120, .int .i64 t121, .int .i64 t122, .int .i64 0]) ?_ 8 _ rfl; (with_reducible repeat (first | refine qa4 ?_ _ | refine qa5 ?_ | refine qa3 ?_ _)); refine qaa (cs := #[.int .i64 t115, .int .i64 t116, .int .u64 t117, .int .u64 t118, .int .u64 t119, .int .u64 t120, .int .i64 t121, .int .i64 0, .int .i64 0]) ?_ 7 _ rfl; (with_reducible repeat (first | refine qa4 ?_ _ | refine qa5 ?_ | refine qa3 ?_ _)); refine qaa (cs := #[.int .i64 t115, .int .i64 t116, .int .u64 t117, .int .u64 t118, .int .u64 t119, .int .u64 t120, .int .i64 0, .int .i64 0, .int .i64 0]) ?_ 6 _ rfl; (with_reducible repeat (first | refine qa4 ?_ _ | refine qa5 ?_ | refine qa3 ?_ _)); refine qaa (cs := #[.int .i64 t115, .int .i64 t116, .int .u64 t117, .int .u64 t118, .int .u64 t119, .int .u64 0, .int .i64 0, .int .i64 0, .int .i64 0]) ?_ 5 _ rfl; (with_reducible repeat (first | refine qa4 ?_ _ | refine qa5 ?_ | refine qa3 ?_ _)); refine qaa (cs := #[.int .i64 t115, .int .i64 t116, .int .u64 t117, .int .u64 t118, .int .u64 0, .int .u64 0, .int .i64 0, .int .i64 0, .int .i64 0]) ?_ 4 _ rfl; (with_reducible repeat (first | refine qa4 ?_ _ | refine qa5 ?_ | refine qa3 ?_ _)); refine qaa (cs := #[.int .i64 t115, .int .i64 t116, .int .u64 t117, .int .u64 0, .int .u64 0, .int .u64 0, .int .i64 0, .int .i64 0, .int .i64 0]) ?_ 3 _ rfl; (with_reducible repeat (first | refine qa4 ?_ _ | refine qa5 ?_ | refine qa3 ?_ _)); refine qaa (cs := #[.int .i64 t115, .int .i64 t116, .int .u64 0, .int .u64 0, .int .u64 0, .int .u64 0, .int .i64 0, .int .i64 0, .int .i64 0]) ?_ 2 _ rfl; (with_reducible repeat (first | refine qa4 ?_ _ | refine qa5 ?_ | refine qa3 ?_ _)); refine qaa (cs := #[.int .i64 t115, .int .i64 0, .int .u64 0, .int .u64 0, .int .u64 0, .int .u64 0, .int .i64 0, .int .i64 0, .int .i64 0]) ?_ 1 _ rfl; (with_reducible repeat (first | refine qa4 ?_ _ | refine qa5 ?_ | refine qa3 ?_ _)); refine qaa (cs := #[.int .i64 0, .int .i64 0, .int .u64 0, .int .u64 0, .int .u64 0, .int .u64 0, .int .i64 0, .int .i64 0, .int .i64 0]) ?_ 0 _ rfl; (with_reducible repeat (first | refine qa4 ?_ _ | refine qa5 ?_ | refine qa3 ?_ _)); exact BK114.out) Try.underlying67 rfl (by kernel_rfl)) rfl ?_
  exact ⟨by first | rfl | (simp only [wrap_wrap]; done) | (simp only [wrap_wrap]; rfl) | (simp [qah, qai] <;> rfl) | (simp [*, qah, qai] <;> rfl), by repeat (first | (with_reducible first | exact HB.out | apply qa6 | apply qa7 | apply qa8 | refine qa9 ?_ GE114.out) | exact HB.out)⟩
 ·rw [if_neg c4] at H
  have c4b0 : ((wrap64 (a1 + 1)) == (a0.size : Int)) = false := beq_eq_false_iff_ne.mpr c4
  have c4b1 : ((wrap64 (a1 + 1)) != (a0.size : Int)) = true := bne_iff_ne.mpr c4
  obtain ⟨ji9, hji9⟩ : ∃ j_ : Int, (wrap64 (a1 + 1)) = j_ := ⟨_, rfl⟩
  replace H : (if 0 ≤ (ji9) then (if (ji9) < (a0.size : Int) then (if (bt a0 (ji9)) = 40 then (some (3, a1, 0, 0, 0, 0, 0, 0, 0, wrap64 (a1 + 2))) else (if (bt a0 (ji9)) = 41 then (some (4, a1, 0, 0, 0, 0, 0, 0, 0, wrap64 (a1 + 2))) else (if (bt a0 (ji9)) = 123 then ((qal.f k a0 (wrap64 (a1 + 2))).bind fun bt124 => (if bt124.2.2.2 = true then (if a2 = true then ((qbx.f a1 9).bind fun bt128 => (some (bt128.1, bt128.2.1, bt128.2.2.1, bt128.2.2.2.1, bt128.2.2.2.2.1, bt128.2.2.2.2.2.1, bt128.2.2.2.2.2.2.1, bt128.2.2.2.2.2.2.2.1, bt128.2.2.2.2.2.2.2.2, a1))) else (some (5, a1, 0, 0, 0, 0, bt124.1, bt124.2.1, 0, bt124.2.2.1))) else ((qbx.f a1 9).bind fun bt137 => (some (bt137.1, bt137.2.1, bt137.2.2.1, bt137.2.2.2.1, bt137.2.2.2.2.1, bt137.2.2.2.2.2.1, bt137.2.2.2.2.2.2.1, bt137.2.2.2.2.2.2.2.1, bt137.2.2.2.2.2.2.2.2, a1))))) else (if (bt a0 (ji9)) = 125 then ((qbx.f a1 9).bind fun bt146 => (some (bt146.1, bt146.2.1, bt146.2.2.1, bt146.2.2.2.1, bt146.2.2.2.2.1, bt146.2.2.2.2.2.1, bt146.2.2.2.2.2.2.1, bt146.2.2.2.2.2.2.2.1, bt146.2.2.2.2.2.2.2.2, a1))) else (if (bt a0 (ji9)) = 110 then ((qci.f a1 10).bind fun bt155 => (some (bt155.1, bt155.2.1, bt155.2.2.1, bt155.2.2.2.1, bt155.2.2.2.2.1, bt155.2.2.2.2.2.1, bt155.2.2.2.2.2.2.1, bt155.2.2.2.2.2.2.2.1, bt155.2.2.2.2.2.2.2.2, wrap64 (a1 + 2)))) else (if (bt a0 (ji9)) ≥ 49 then (qb6.j0 k a1 (bt a0 (ji9)) (decide ((bt a0 (ji9)) ≤ 57))) else (qb6.j0 k a1 (bt a0 (ji9)) false))))))) else (none)) else (none)) = some (r1, r2, r3, r4, r5, r6, r7, r8, r9, r10) := by first | (rw [hji9] at H; exact H) | (simp only [hji9] at H ⊢; exact H)
  (try rw [hji9] at c4b0)
  (try rw [hji9] at c4b1)
  have hji9w : (IntKind.i64.wrap (a1 + 1)) = ji9 := (qbk _).trans hji9
  by_cases c10 : 0 ≤ (ji9)
  ·rw [if_pos c10] at H
   have c10b0 : decide (0 ≤ (ji9)) = true := decide_eq_true c10
   clear c10
   by_cases c11 : (ji9) < (a0.size : Int)
   ·rw [if_pos c11] at H
    have c11b0 : decide ((ji9) < (a0.size : Int)) = true := decide_eq_true c11
    clear c11
    by_cases c13 : (bt a0 (ji9)) = 40
    ·rw [if_pos c13] at H
     have c13b0 : ((bt a0 (ji9)) == 40) = true := beq_iff_eq.mpr c13
     have c13b1 : ((bt a0 (ji9)) != 40) = false := bne_eq_false_iff_eq.mpr c13
     clear c13
     simp only [Option.some.injEq, Prod.mk.injEq] at H
     obtain ⟨rfl, rfl, rfl, rfl, rfl, rfl, rfl, rfl, rfl, rfl⟩ := H
     go_enter Try.func49, Try.ntmps49
     go_wp2_with (first | ((with_reducible refine qb7 (N := 6) rfl ?_); refine qbb ?hg (N := 6) ?hd (cs := #[.int .i64 0, .int .i64 0, .int .u64 0, .int .u64 0, .int .u64 0, .int .u64 0, .int .i64 0, .int .i64 0, .int .i64 0]) (t := 67) ?hr ?_; (case hd => rfl); (case hg => rfl); (case hr => first | (go_simp; done) | (go_simp; rfl)); intro gb114 hg w14 hbox hb; have n0_ := qa0.mk (qap (by repeat (first | (with_reducible first | exact HB.out | apply qa6 | apply qa7 | apply qa8) | exact HB.out)) hb); have n1_ := qa0.mk (hbox); have n2_ := qa0.mk ((by rw [hg]; exact (qaq (by repeat (first | (with_reducible first | exact HB.out | apply qa6 | apply qa7 | apply qa8) | exact HB.out))) : w.heap.size ≤ gb114)); have n3_ := qa0.mk ((by rw [hg]; exact (qaq (by repeat (first | (with_reducible first | exact HB.out | apply qa6 | apply qa7 | apply qa8) | exact HB.out))) : w.heap.size ≤ gb114)); clear HB; have HB := n0_; have BK114 := n1_; have GW114 := n2_; have GE114 := n3_; clear n0_ n1_ n2_ n3_; clear hb hbox hg; have p12 : 0 ≤ ((ji9) : Int) := of_decide_eq_true (by first | (with_reducible assumption) | assumption); have q12 : (ji9) < (a0.size : Int) := of_decide_eq_true (by first | (with_reducible assumption) | assumption); have hx12 := qbz a0 (ji9); replace p12 := eq_true p12; replace q12 := eq_true q12; have hcz15_0 : w14.cell? ⟨gb114, 0, none⟩ = some (.int .i64 0) := (qa2 BK114.out 0).trans rfl; have hcz15_1 : w14.cell? ⟨gb114, 1, none⟩ = some (.int .i64 0) := (qa2 BK114.out 1).trans rfl; have hcz15_2 : w14.cell? ⟨gb114, 2, none⟩ = some (.int .u64 0) := (qa2 BK114.out 2).trans rfl; have hcz15_3 : w14.cell? ⟨gb114, 3, none⟩ = some (.int .u64 0) := (qa2 BK114.out 3).trans rfl; have hcz15_4 : w14.cell? ⟨gb114, 4, none⟩ = some (.int .u64 0) := (qa2 BK114.out 4).trans rfl; have hcz15_5 : w14.cell? ⟨gb114, 5, none⟩ = some (.int .u64 0) := (qa2 BK114.out 5).trans rfl; have hcz15_6 : w14.cell? ⟨gb114, 6, none⟩ = some (.int .i64 0) := (qa2 BK114.out 6).trans rfl; have hcz15_7 : w14.cell? ⟨gb114, 7, none⟩ = some (.int .i64 0) := (qa2 BK114.out 7).trans rfl; have hcz15_8 : w14.cell? ⟨gb114, 8, none⟩ = some (.int .i64 0) := (qa2 BK114.out 8).trans rfl; have hfz15_0 := qa1 BK114.out 0; have hfz15_1 := qa1 BK114.out 1; have hfz15_2 := qa1 BK114.out 2; have hfz15_3 := qa1 BK114.out 3; have hfz15_4 := qa1 BK114.out 4; have hfz15_5 := qa1 BK114.out 5; have hfz15_6 := qa1 BK114.out 6; have hfz15_7 := qa1 BK114.out 7; have hfz15_8 := qa1 BK114.out 8))
     refine bodyPost_ret (qbv rfl _ _ gb114 67 #[.int .i64 3, .int .i64 a1, .int .u64 0, .int .u64 0, .int .u64 0, .int .u64 0, .int .i64 0, .int .i64 0, .int .i64 0] (0, 0) _ rfl (by (with_reducible repeat (first | refine qa4 ?_ _ | refine qa5 ?_ | refine qa3 ?_ _)); refine qaa (cs := #[.int .i64 3, .int .i64 a1, .int .u64 0, .int .u64 0, .int .u64 0, .int .u64 0, .int .i64 0, .int .i64 0, .int .i64 0]) ?_ 8 _ rfl; (with_reducible repeat (first | refine qa4 ?_ _ | refine qa5 ?_ | refine qa3 ?_ _)); refine qaa (cs := #[.int .i64 3, .int .i64 a1, .int .u64 0, .int .u64 0, .int .u64 0, .int .u64 0, .int .i64 0, .int .i64 0, .int .i64 0]) ?_ 7 _ rfl; (with_reducible repeat (first | refine qa4 ?_ _ | refine qa5 ?_ | refine qa3 ?_ _)); refine qaa (cs := #[.int .i64 3, .int .i64 a1, .int .u64 0, .int .u64 0, .int .u64 0, .int .u64 0, .int .i64 0, .int .i64 0, .int .i64 0]) ?_ 6 _ rfl; (with_reducible repeat (first | refine qa4 ?_ _ | refine qa5 ?_ | refine qa3 ?_ _)); refine qaa (cs := #[.int .i64 3, .int .i64 a1, .int .u64 0, .int .u64 0, .int .u64 0, .int .u64 0, .int .i64 0, .int .i64 0, .int .i64 0]) ?_ 5 _ rfl; (with_reducible repeat (first | refine qa4 ?_ _ | refine qa5 ?_ | refine qa3 ?_ _)); refine qaa (cs := #[.int .i64 3, .int .i64 a1, .int .u64 0, .int .u64 0, .int .u64 0, .int .u64 0, .int .i64 0, .int .i64 0, .int .i64 0]) ?_ 4 _ rfl; (with_reducible repeat (first | refine qa4 ?_ _ | refine qa5 ?_ | refine qa3 ?_ _)); refine qaa (cs := #[.int .i64 3, .int .i64 a1, .int .u64 0, .int .u64 0, .int .u64 0, .int .u64 0, .int .i64 0, .int .i64 0, .int .i64 0]) ?_ 3 _ rfl; (with_reducible repeat (first | refine qa4 ?_ _ | refine qa5 ?_ | refine qa3 ?_ _)); refine qaa (cs := #[.int .i64 3, .int .i64 a1, .int .u64 0, .int .u64 0, .int .u64 0, .int .u64 0, .int .i64 0, .int .i64 0, .int .i64 0]) ?_ 2 _ rfl; (with_reducible repeat (first | refine qa4 ?_ _ | refine qa5 ?_ | refine qa3 ?_ _)); refine qaa (cs := #[.int .i64 3, .int .i64 0, .int .u64 0, .int .u64 0, .int .u64 0, .int .u64 0, .int .i64 0, .int .i64 0, .int .i64 0]) ?_ 1 _ rfl; (with_reducible repeat (first | refine qa4 ?_ _ | refine qa5 ?_ | refine qa3 ?_ _)); refine qaa (cs := #[.int .i64 0, .int .i64 0, .int .u64 0, .int .u64 0, .int .u64 0, .int .u64 0, .int .i64 0, .int .i64 0, .int .i64 0]) ?_ 0 _ rfl; (with_reducible repeat (first | refine qa4 ?_ _ | refine qa5 ?_ | refine qa3 ?_ _)); exact BK114.out) Try.underlying67 rfl (by kernel_rfl)) rfl ?_
     exact ⟨by first | rfl | (simp only [wrap_wrap]; done) | (simp only [wrap_wrap]; rfl) | (simp [qah, qai] <;> rfl) | (simp only [← hji9]; first | rfl | (simp [qah, qai] <;> rfl)) | (simp [*, qah, qai] <;> rfl), by repeat (first | (with_reducible first | exact HB.out | apply qa6 | apply qa7 | apply qa8 | refine qa9 ?_ GE114.out) | exact HB.out)⟩
    ·rw [if_neg c13] at H
     have c13b0 : ((bt a0 (ji9)) == 40) = false := beq_eq_false_iff_ne.mpr c13
     have c13b1 : ((bt a0 (ji9)) != 40) = true := bne_iff_ne.mpr c13
     by_cases c16 : (bt a0 (ji9)) = 41
     ·rw [if_pos c16] at H
      have c16b0 : ((bt a0 (ji9)) == 41) = true := beq_iff_eq.mpr c16
      have c16b1 : ((bt a0 (ji9)) != 41) = false := bne_eq_false_iff_eq.mpr c16
      clear c16
      simp only [Option.some.injEq, Prod.mk.injEq] at H
      obtain ⟨rfl, rfl, rfl, rfl, rfl, rfl, rfl, rfl, rfl, rfl⟩ := H
      go_enter Try.func49, Try.ntmps49
      go_wp2_with (first | ((with_reducible refine qb7 (N := 6) rfl ?_); refine qbb ?hg (N := 6) ?hd (cs := #[.int .i64 0, .int .i64 0, .int .u64 0, .int .u64 0, .int .u64 0, .int .u64 0, .int .i64 0, .int .i64 0, .int .i64 0]) (t := 67) ?hr ?_; (case hd => rfl); (case hg => rfl); (case hr => first | (go_simp; done) | (go_simp; rfl)); intro gb114 hg w17 hbox hb; have n0_ := qa0.mk (qap (by repeat (first | (with_reducible first | exact HB.out | apply qa6 | apply qa7 | apply qa8) | exact HB.out)) hb); have n1_ := qa0.mk (hbox); have n2_ := qa0.mk ((by rw [hg]; exact (qaq (by repeat (first | (with_reducible first | exact HB.out | apply qa6 | apply qa7 | apply qa8) | exact HB.out))) : w.heap.size ≤ gb114)); have n3_ := qa0.mk ((by rw [hg]; exact (qaq (by repeat (first | (with_reducible first | exact HB.out | apply qa6 | apply qa7 | apply qa8) | exact HB.out))) : w.heap.size ≤ gb114)); clear HB; have HB := n0_; have BK114 := n1_; have GW114 := n2_; have GE114 := n3_; clear n0_ n1_ n2_ n3_; clear hb hbox hg; have p12 : 0 ≤ ((ji9) : Int) := of_decide_eq_true (by first | (with_reducible assumption) | assumption); have q12 : (ji9) < (a0.size : Int) := of_decide_eq_true (by first | (with_reducible assumption) | assumption); have hx12 := qbz a0 (ji9); replace p12 := eq_true p12; replace q12 := eq_true q12; have hcz18_0 : w17.cell? ⟨gb114, 0, none⟩ = some (.int .i64 0) := (qa2 BK114.out 0).trans rfl; have hcz18_1 : w17.cell? ⟨gb114, 1, none⟩ = some (.int .i64 0) := (qa2 BK114.out 1).trans rfl; have hcz18_2 : w17.cell? ⟨gb114, 2, none⟩ = some (.int .u64 0) := (qa2 BK114.out 2).trans rfl; have hcz18_3 : w17.cell? ⟨gb114, 3, none⟩ = some (.int .u64 0) := (qa2 BK114.out 3).trans rfl; have hcz18_4 : w17.cell? ⟨gb114, 4, none⟩ = some (.int .u64 0) := (qa2 BK114.out 4).trans rfl; have hcz18_5 : w17.cell? ⟨gb114, 5, none⟩ = some (.int .u64 0) := (qa2 BK114.out 5).trans rfl; have hcz18_6 : w17.cell? ⟨gb114, 6, none⟩ = some (.int .i64 0) := (qa2 BK114.out 6).trans rfl; have hcz18_7 : w17.cell? ⟨gb114, 7, none⟩ = some (.int .i64 0) := (qa2 BK114.out 7).trans rfl; have hcz18_8 : w17.cell? ⟨gb114, 8, none⟩ = some (.int .i64 0) := (qa2 BK114.out 8).trans rfl; have hfz18_0 := qa1 BK114.out 0; have hfz18_1 := qa1 BK114.out 1; have hfz18_2 := qa1 BK114.out 2; have hfz18_3 := qa1 BK114.out 3; have hfz18_4 := qa1 BK114.out 4; have hfz18_5 := qa1 BK114.out 5; have hfz18_6 := qa1 BK114.out 6; have hfz18_7 := qa1 BK114.out 7; have hfz18_8 := qa1 BK114.out 8))
      refine bodyPost_ret (qbv rfl _ _ gb114 67 #[.int .i64 4, .int .i64 a1, .int .u64 0, .int .u64 0, .int .u64 0, .int .u64 0, .int .i64 0, .int .i64 0, .int .i64 0] (0, 0) _ rfl (by (with_reducible repeat (first | refine qa4 ?_ _ | refine qa5 ?_ | refine qa3 ?_ _)); refine qaa (cs := #[.int .i64 4, .int .i64 a1, .int .u64 0, .int .u64 0, .int .u64 0, .int .u64 0, .int .i64 0, .int .i64 0, .int .i64 0]) ?_ 8 _ rfl; (with_reducible repeat (first | refine qa4 ?_ _ | refine qa5 ?_ | refine qa3 ?_ _)); refine qaa (cs := #[.int .i64 4, .int .i64 a1, .int .u64 0, .int .u64 0, .int .u64 0, .int .u64 0, .int .i64 0, .int .i64 0, .int .i64 0]) ?_ 7 _ rfl; (with_reducible repeat (first | refine qa4 ?_ _ | refine qa5 ?_ | refine qa3 ?_ _)); refine qaa (cs := #[.int .i64 4, .int .i64 a1, .int .u64 0, .int .u64 0, .int .u64 0, .int .u64 0, .int .i64 0, .int .i64 0, .int .i64 0]) ?_ 6 _ rfl; (with_reducible repeat (first | refine qa4 ?_ _ | refine qa5 ?_ | refine qa3 ?_ _)); refine qaa (cs := #[.int .i64 4, .int .i64 a1, .int .u64 0, .int .u64 0, .int .u64 0, .int .u64 0, .int .i64 0, .int .i64 0, .int .i64 0]) ?_ 5 _ rfl; (with_reducible repeat (first | refine qa4 ?_ _ | refine qa5 ?_ | refine qa3 ?_ _)); refine qaa (cs := #[.int .i64 4, .int .i64 a1, .int .u64 0, .int .u64 0, .int .u64 0, .int .u64 0, .int .i64 0, .int .i64 0, .int .i64 0]) ?_ 4 _ rfl; (with_reducible repeat (first | refine qa4 ?_ _ | refine qa5 ?_ | refine qa3 ?_ _)); refine qaa (cs := #[.int .i64 4, .int .i64 a1, .int .u64 0, .int .u64 0, .int .u64 0, .int .u64 0, .int .i64 0, .int .i64 0, .int .i64 0]) ?_ 3 _ rfl; (with_reducible repeat (first | refine qa4 ?_ _ | refine qa5 ?_ | refine qa3 ?_ _)); refine qaa (cs := #[.int .i64 4, .int .i64 a1, .int .u64 0, .int .u64 0, .int .u64 0, .int .u64 0, .int .i64 0, .int .i64 0, .int .i64 0]) ?_ 2 _ rfl; (with_reducible repeat (first | refine qa4 ?_ _ | refine qa5 ?_ | refine qa3 ?_ _)); refine qaa (cs := #[.int .i64 4, .int .i64 0, .int .u64 0, .int .u64 0, .int .u64 0, .int .u64 0, .int .i64 0, .int .i64 0, .int .i64 0]) ?_ 1 _ rfl; (with_reducible repeat (first | refine qa4 ?_ _ | refine qa5 ?_ | refine qa3 ?_ _)); refine qaa (cs := #[.int .i64 0, .int .i64 0, .int .u64 0, .int .u64 0, .int .u64 0, .int .u64 0, .int .i64 0, .int .i64 0, .int .i64 0]) ?_ 0 _ rfl; (with_reducible repeat (first | refine qa4 ?_ _ | refine qa5 ?_ | refine qa3 ?_ _)); exact BK114.out) Try.underlying67 rfl (by kernel_rfl)) rfl ?_
      exact ⟨by first | rfl | (simp only [wrap_wrap]; done) | (simp only [wrap_wrap]; rfl) | (simp [qah, qai] <;> rfl) | (simp only [← hji9]; first | rfl | (simp [qah, qai] <;> rfl)) | (simp [*, qah, qai] <;> rfl), by repeat (first | (with_reducible first | exact HB.out | apply qa6 | apply qa7 | apply qa8 | refine qa9 ?_ GE114.out) | exact HB.out)⟩
     ·rw [if_neg c16] at H
      have c16b0 : ((bt a0 (ji9)) == 41) = false := beq_eq_false_iff_ne.mpr c16
      have c16b1 : ((bt a0 (ji9)) != 41) = true := bne_iff_ne.mpr c16
      by_cases c19 : (bt a0 (ji9)) = 123
      ·rw [if_pos c19] at H
       have c19b0 : ((bt a0 (ji9)) == 123) = true := beq_iff_eq.mpr c19
       have c19b1 : ((bt a0 (ji9)) != 123) = false := bne_eq_false_iff_eq.mpr c19
       clear c19
       replace H := Option.bind_eq_some_iff.mp H
       obtain ⟨⟨t124, t125, t126, t127⟩, A200, H⟩ := H
       replace H : (if t127 = true then (if a2 = true then ((qbx.f a1 9).bind fun bt128 => (some (bt128.1, bt128.2.1, bt128.2.2.1, bt128.2.2.2.1, bt128.2.2.2.2.1, bt128.2.2.2.2.2.1, bt128.2.2.2.2.2.2.1, bt128.2.2.2.2.2.2.2.1, bt128.2.2.2.2.2.2.2.2, a1))) else (some (5, a1, 0, 0, 0, 0, t124, t125, 0, t126))) else ((qbx.f a1 9).bind fun bt137 => (some (bt137.1, bt137.2.1, bt137.2.2.1, bt137.2.2.2.1, bt137.2.2.2.2.1, bt137.2.2.2.2.2.1, bt137.2.2.2.2.2.2.1, bt137.2.2.2.2.2.2.2.1, bt137.2.2.2.2.2.2.2.2, a1)))) = some (r1, r2, r3, r4, r5, r6, r7, r8, r9, r10) := H
       have A20 := qa0.mk A200
       clear A200
       by_cases c21 : t127 = true
       ·subst c21
        have H1 : (if a2 = true then ((qbx.f a1 9).bind fun bt128 => (some (bt128.1, bt128.2.1, bt128.2.2.1, bt128.2.2.2.1, bt128.2.2.2.2.1, bt128.2.2.2.2.2.1, bt128.2.2.2.2.2.2.1, bt128.2.2.2.2.2.2.2.1, bt128.2.2.2.2.2.2.2.2, a1))) else (some (5, a1, 0, 0, 0, 0, t124, t125, 0, t126))) = some (r1, r2, r3, r4, r5, r6, r7, r8, r9, r10) := by rw [if_pos rfl] at H; exact H
        clear H
        have H := H1
        clear H1
        by_cases c22 : a2 = true
        ·subst c22
         have H1 : ((qbx.f a1 9).bind fun bt128 => (some (bt128.1, bt128.2.1, bt128.2.2.1, bt128.2.2.2.1, bt128.2.2.2.2.1, bt128.2.2.2.2.2.1, bt128.2.2.2.2.2.2.1, bt128.2.2.2.2.2.2.2.1, bt128.2.2.2.2.2.2.2.2, a1))) = some (r1, r2, r3, r4, r5, r6, r7, r8, r9, r10) := by rw [if_pos rfl] at H; exact H
         clear H
         have H := H1
         clear H1
         replace H := Option.bind_eq_some_iff.mp H
         obtain ⟨⟨t128, t129, t130, t131, t132, t133, t134, t135, t136⟩, A230, H⟩ := H
         replace H : (some (t128, t129, t130, t131, t132, t133, t134, t135, t136, a1)) = some (r1, r2, r3, r4, r5, r6, r7, r8, r9, r10) := H
         have A23 := qa0.mk A230
         clear A230
         simp only [Option.some.injEq, Prod.mk.injEq] at H
         obtain ⟨rfl, rfl, rfl, rfl, rfl, rfl, rfl, rfl, rfl, rfl⟩ := H
         go_enter Try.func49, Try.ntmps49
         go_wp2_with (first | ((with_reducible refine qb7 (N := 6) rfl ?_); refine qbb ?hg (N := 6) ?hd (cs := #[.int .i64 0, .int .i64 0, .int .u64 0, .int .u64 0, .int .u64 0, .int .u64 0, .int .i64 0, .int .i64 0, .int .i64 0]) (t := 67) ?hr ?_; (case hd => rfl); (case hg => rfl); (case hr => first | (go_simp; done) | (go_simp; rfl)); intro gb114 hg w24 hbox hb; have n0_ := qa0.mk (qap (by repeat (first | (with_reducible first | exact HB.out | apply qa6 | apply qa7 | apply qa8) | exact HB.out)) hb); have n1_ := qa0.mk (hbox); have n2_ := qa0.mk ((by rw [hg]; exact (qaq (by repeat (first | (with_reducible first | exact HB.out | apply qa6 | apply qa7 | apply qa8) | exact HB.out))) : w.heap.size ≤ gb114)); have n3_ := qa0.mk ((by rw [hg]; exact (qaq (by repeat (first | (with_reducible first | exact HB.out | apply qa6 | apply qa7 | apply qa8) | exact HB.out))) : w.heap.size ≤ gb114)); clear HB; have HB := n0_; have BK114 := n1_; have GW114 := n2_; have GE114 := n3_; clear n0_ n1_ n2_ n3_; clear hb hbox hg; have p12 : 0 ≤ ((ji9) : Int) := of_decide_eq_true (by first | (with_reducible assumption) | assumption); have q12 : (ji9) < (a0.size : Int) := of_decide_eq_true (by first | (with_reducible assumption) | assumption); have hx12 := qbz a0 (ji9); replace p12 := eq_true p12; replace q12 := eq_true q12) | ((with_reducible refine qbc (f := 61) rfl ?_); refine qcc (some 51) rfl rfl Try.func61 (by kernel_rfl) rfl #[.string a0, .int .i64 (wrap64 (a1 + 2))] rfl (by (try simp only [List.map_toArray, List.map_cons, List.map_nil]); first | done | rfl | (simp only [List.length_drop, List.length_take]; rfl)) ?_; (with_reducible refine (qal.calls k a0 (wrap64 (a1 + 2)) t124 t125 t126 true _ A20.out).mono ?_); rintro e w25 ⟨rfl, hb⟩; refine ⟨_, rfl, ?_⟩; have n0_ := qa0.mk (qae (g := gb114) (o := .cells #[.int .i64 0, .int .i64 0, .int .u64 0, .int .u64 0, .int .u64 0, .int .u64 0, .int .i64 0, .int .i64 0, .int .i64 0] 67 (0, 0)) (by (with_reducible repeat (first | refine qa4 ?_ _ | refine qa5 ?_ | refine qa3 ?_ _)); exact BK114.out) hb); have n1_ := qa0.mk (qap (by repeat (first | (with_reducible first | exact HB.out | apply qa6 | apply qa7 | apply qa8 | refine qa9 ?_ GE114.out) | exact HB.out)) hb); clear BK114; clear HB; have BK114 := n0_; have HB := n1_; clear n0_ n1_; (try clear hb); (try clear hb2); (try clear hk); (try clear hi)) | ((with_reducible refine qbc (f := 51) rfl ?_); refine qcc (some 62) rfl rfl Try.func51 (by kernel_rfl) rfl #[.int .i64 a1, .int .i64 9] rfl (by (try simp only [List.map_toArray, List.map_cons, List.map_nil]); first | done | rfl | (simp only [List.length_drop, List.length_take]; rfl)) ?_; (with_reducible refine (qbx.calls a1 9 t128 t129 t130 t131 t132 t133 t134 t135 t136 _ A23.out).mono ?_); rintro e w26 ⟨rfl, hb⟩; refine ⟨_, rfl, ?_⟩; have n0_ := qa0.mk (qae (g := gb114) (o := .cells #[.int .i64 0, .int .i64 0, .int .u64 0, .int .u64 0, .int .u64 0, .int .u64 0, .int .i64 0, .int .i64 0, .int .i64 0] 67 (0, 0)) (by (with_reducible repeat (first | refine qa4 ?_ _ | refine qa5 ?_ | refine qa3 ?_ _)); exact BK114.out) hb); have n1_ := qa0.mk (qap (by repeat (first | (with_reducible first | exact HB.out | apply qa6 | apply qa7 | apply qa8 | refine qa9 ?_ GE114.out) | exact HB.out)) hb); clear BK114; clear HB; have BK114 := n0_; have HB := n1_; clear n0_ n1_; (try clear hb); (try clear hb2); (try clear hk); (try clear hi); have hcz27_0 : w26.cell? ⟨gb114, 0, none⟩ = some (.int .i64 0) := (qa2 BK114.out 0).trans rfl; have hcz27_1 : w26.cell? ⟨gb114, 1, none⟩ = some (.int .i64 0) := (qa2 BK114.out 1).trans rfl; have hcz27_2 : w26.cell? ⟨gb114, 2, none⟩ = some (.int .u64 0) := (qa2 BK114.out 2).trans rfl; have hcz27_3 : w26.cell? ⟨gb114, 3, none⟩ = some (.int .u64 0) := (qa2 BK114.out 3).trans rfl; have hcz27_4 : w26.cell? ⟨gb114, 4, none⟩ = some (.int .u64 0) := (qa2 BK114.out 4).trans rfl; have hcz27_5 : w26.cell? ⟨gb114, 5, none⟩ = some (.int .u64 0) := (qa2 BK114.out 5).trans rfl; have hcz27_6 : w26.cell? ⟨gb114, 6, none⟩ = some (.int .i64 0) := (qa2 BK114.out 6).trans rfl; have hcz27_7 : w26.cell? ⟨gb114, 7, none⟩ = some (.int .i64 0) := (qa2 BK114.out 7).trans rfl; have hcz27_8 : w26.cell? ⟨gb114, 8, none⟩ = some (.int .i64 0) := (qa2 BK114.out 8).trans rfl; have hfz27_0 := qa1 BK114.out 0; have hfz27_1 := qa1 BK114.out 1; have hfz27_2 := qa1 BK114.out 2; have hfz27_3 := qa1 BK114.out 3; have hfz27_4 := qa1 BK114.out 4; have hfz27_5 := qa1 BK114.out 5; have hfz27_6 := qa1 BK114.out 6; have hfz27_7 := qa1 BK114.out 7; have hfz27_8 := qa1 BK114.out 8))
         refine bodyPost_ret (qbv rfl _ _ gb114 67 #[.int .i64 t128, .int .i64 t129, .int .u64 t130, .int .u64 t131, .int .u64 t132, .int .u64 t133, .int .i64 t134, .int .i64 t135, .int .i64 t136] (0, 0) _ rfl (by (with_reducible repeat (first | refine qa4 ?_ _ | refine qa5 ?_ | refine qa3 ?_ _)); refine qaa (cs := #[.int .i64 t128, .int .i64 t129, .int .u64 t130, .int .u64 t131, .int .u64 t132, .int .u64 t133, .int .i64 t134, .int .i64 t135, .int .i64 0]) ?_ 8 _ rfl; (with_reducible repeat (first | refine qa4 ?_ _ | refine qa5 ?_ | refine qa3 ?_ _)); refine qaa (cs := #[.int .i64 t128, .int .i64 t129, .int .u64 t130, .int .u64 t131, .int .u64 t132, .int .u64 t133, .int .i64 t134, .int .i64 0, .int .i64 0]) ?_ 7 _ rfl; (with_reducible repeat (first | refine qa4 ?_ _ | refine qa5 ?_ | refine qa3 ?_ _)); refine qaa (cs := #[.int .i64 t128, .int .i64 t129, .int .u64 t130, .int .u64 t131, .int .u64 t132, .int .u64 t133, .int .i64 0, .int .i64 0, .int .i64 0]) ?_ 6 _ rfl; (with_reducible repeat (first | refine qa4 ?_ _ | refine qa5 ?_ | refine qa3 ?_ _)); refine qaa (cs := #[.int .i64 t128, .int .i64 t129, .int .u64 t130, .int .u64 t131, .int .u64 t132, .int .u64 0, .int .i64 0, .int .i64 0, .int .i64 0]) ?_ 5 _ rfl; (with_reducible repeat (first | refine qa4 ?_ _ | refine qa5 ?_ | refine qa3 ?_ _)); refine qaa (cs := #[.int .i64 t128, .int .i64 t129, .int .u64 t130, .int .u64 t131, .int .u64 0, .int .u64 0, .int .i64 0, .int .i64 0, .int .i64 0]) ?_ 4 _ rfl; (with_reducible repeat (first | refine qa4 ?_ _ | refine qa5 ?_ | refine qa3 ?_ _)); refine qaa (cs := #[.int .i64 t128, .int .i64 t129, .int .u64 t130, .int .u64 0, .int .u64 0, .int .u64 0, .int .i64 0, .int .i64 0, .int .i64 0]) ?_ 3 _ rfl; (with_reducible repeat (first | refine qa4 ?_ _ | refine qa5 ?_ | refine qa3 ?_ _)); refine qaa (cs := #[.int .i64 t128, .int .i64 t129, .int .u64 0, .int .u64 0, .int .u64 0, .int .u64 0, .int .i64 0, .int .i64 0, .int .i64 0]) ?_ 2 _ rfl; (with_reducible repeat (first | refine qa4 ?_ _ | refine qa5 ?_ | refine qa3 ?_ _)); refine qaa (cs := #[.int .i64 t128, .int .i64 0, .int .u64 0, .int .u64 0, .int .u64 0, .int .u64 0, .int .i64 0, .int .i64 0, .int .i64 0]) ?_ 1 _ rfl; (with_reducible repeat (first | refine qa4 ?_ _ | refine qa5 ?_ | refine qa3 ?_ _)); refine qaa (cs := #[.int .i64 0, .int .i64 0, .int .u64 0, .int .u64 0, .int .u64 0, .int .u64 0, .int .i64 0, .int .i64 0, .int .i64 0]) ?_ 0 _ rfl; (with_reducible repeat (first | refine qa4 ?_ _ | refine qa5 ?_ | refine qa3 ?_ _)); exact BK114.out) Try.underlying67 rfl (by kernel_rfl)) rfl ?_
         exact ⟨by first | rfl | (simp only [wrap_wrap]; done) | (simp only [wrap_wrap]; rfl) | (simp [qah, qai] <;> rfl) | (simp only [← hji9]; first | rfl | (simp [qah, qai] <;> rfl)) | (simp [*, qah, qai] <;> rfl), by repeat (first | (with_reducible first | exact HB.out | apply qa6 | apply qa7 | apply qa8 | refine qa9 ?_ GE114.out) | exact HB.out)⟩
        ·replace c22 := Bool.eq_false_iff.mpr c22
         subst c22
         have H1 : (some (5, a1, 0, 0, 0, 0, t124, t125, 0, t126)) = some (r1, r2, r3, r4, r5, r6, r7, r8, r9, r10) := by rw [if_neg (show ¬ (false = true) by decide)] at H; exact H
         clear H
         have H := H1
         clear H1
         simp only [Option.some.injEq, Prod.mk.injEq] at H
         obtain ⟨rfl, rfl, rfl, rfl, rfl, rfl, rfl, rfl, rfl, rfl⟩ := H
         go_enter Try.func49, Try.ntmps49
         go_wp2_with (first | ((with_reducible refine qb7 (N := 6) rfl ?_); refine qbb ?hg (N := 6) ?hd (cs := #[.int .i64 0, .int .i64 0, .int .u64 0, .int .u64 0, .int .u64 0, .int .u64 0, .int .i64 0, .int .i64 0, .int .i64 0]) (t := 67) ?hr ?_; (case hd => rfl); (case hg => rfl); (case hr => first | (go_simp; done) | (go_simp; rfl)); intro gb114 hg w28 hbox hb; have n0_ := qa0.mk (qap (by repeat (first | (with_reducible first | exact HB.out | apply qa6 | apply qa7 | apply qa8) | exact HB.out)) hb); have n1_ := qa0.mk (hbox); have n2_ := qa0.mk ((by rw [hg]; exact (qaq (by repeat (first | (with_reducible first | exact HB.out | apply qa6 | apply qa7 | apply qa8) | exact HB.out))) : w.heap.size ≤ gb114)); have n3_ := qa0.mk ((by rw [hg]; exact (qaq (by repeat (first | (with_reducible first | exact HB.out | apply qa6 | apply qa7 | apply qa8) | exact HB.out))) : w.heap.size ≤ gb114)); clear HB; have HB := n0_; have BK114 := n1_; have GW114 := n2_; have GE114 := n3_; clear n0_ n1_ n2_ n3_; clear hb hbox hg; have p12 : 0 ≤ ((ji9) : Int) := of_decide_eq_true (by first | (with_reducible assumption) | assumption); have q12 : (ji9) < (a0.size : Int) := of_decide_eq_true (by first | (with_reducible assumption) | assumption); have hx12 := qbz a0 (ji9); replace p12 := eq_true p12; replace q12 := eq_true q12) | ((with_reducible refine qbc (f := 61) rfl ?_); refine qcc (some 51) rfl rfl Try.func61 (by kernel_rfl) rfl #[.string a0, .int .i64 (wrap64 (a1 + 2))] rfl (by (try simp only [List.map_toArray, List.map_cons, List.map_nil]); first | done | rfl | (simp only [List.length_drop, List.length_take]; rfl)) ?_; (with_reducible refine (qal.calls k a0 (wrap64 (a1 + 2)) t124 t125 t126 true _ A20.out).mono ?_); rintro e w29 ⟨rfl, hb⟩; refine ⟨_, rfl, ?_⟩; have n0_ := qa0.mk (qae (g := gb114) (o := .cells #[.int .i64 0, .int .i64 0, .int .u64 0, .int .u64 0, .int .u64 0, .int .u64 0, .int .i64 0, .int .i64 0, .int .i64 0] 67 (0, 0)) (by (with_reducible repeat (first | refine qa4 ?_ _ | refine qa5 ?_ | refine qa3 ?_ _)); exact BK114.out) hb); have n1_ := qa0.mk (qap (by repeat (first | (with_reducible first | exact HB.out | apply qa6 | apply qa7 | apply qa8 | refine qa9 ?_ GE114.out) | exact HB.out)) hb); clear BK114; clear HB; have BK114 := n0_; have HB := n1_; clear n0_ n1_; (try clear hb); (try clear hb2); (try clear hk); (try clear hi); have hcz30_0 : w29.cell? ⟨gb114, 0, none⟩ = some (.int .i64 0) := (qa2 BK114.out 0).trans rfl; have hcz30_1 : w29.cell? ⟨gb114, 1, none⟩ = some (.int .i64 0) := (qa2 BK114.out 1).trans rfl; have hcz30_2 : w29.cell? ⟨gb114, 2, none⟩ = some (.int .u64 0) := (qa2 BK114.out 2).trans rfl; have hcz30_3 : w29.cell? ⟨gb114, 3, none⟩ = some (.int .u64 0) := (qa2 BK114.out 3).trans rfl; have hcz30_4 : w29.cell? ⟨gb114, 4, none⟩ = some (.int .u64 0) := (qa2 BK114.out 4).trans rfl; have hcz30_5 : w29.cell? ⟨gb114, 5, none⟩ = some (.int .u64 0) := (qa2 BK114.out 5).trans rfl; have hcz30_6 : w29.cell? ⟨gb114, 6, none⟩ = some (.int .i64 0) := (qa2 BK114.out 6).trans rfl; have hcz30_7 : w29.cell? ⟨gb114, 7, none⟩ = some (.int .i64 0) := (qa2 BK114.out 7).trans rfl; have hcz30_8 : w29.cell? ⟨gb114, 8, none⟩ = some (.int .i64 0) := (qa2 BK114.out 8).trans rfl; have hfz30_0 := qa1 BK114.out 0; have hfz30_1 := qa1 BK114.out 1; have hfz30_2 := qa1 BK114.out 2; have hfz30_3 := qa1 BK114.out 3; have hfz30_4 := qa1 BK114.out 4; have hfz30_5 := qa1 BK114.out 5; have hfz30_6 := qa1 BK114.out 6; have hfz30_7 := qa1 BK114.out 7; have hfz30_8 := qa1 BK114.out 8))
         refine bodyPost_ret (qbv rfl _ _ gb114 67 #[.int .i64 5, .int .i64 a1, .int .u64 0, .int .u64 0, .int .u64 0, .int .u64 0, .int .i64 t124, .int .i64 t125, .int .i64 0] (0, 0) _ rfl (by (with_reducible repeat (first | refine qa4 ?_ _ | refine qa5 ?_ | refine qa3 ?_ _)); refine qaa (cs := #[.int .i64 5, .int .i64 a1, .int .u64 0, .int .u64 0, .int .u64 0, .int .u64 0, .int .i64 t124, .int .i64 t125, .int .i64 0]) ?_ 8 _ rfl; (with_reducible repeat (first | refine qa4 ?_ _ | refine qa5 ?_ | refine qa3 ?_ _)); refine qaa (cs := #[.int .i64 5, .int .i64 a1, .int .u64 0, .int .u64 0, .int .u64 0, .int .u64 0, .int .i64 t124, .int .i64 0, .int .i64 0]) ?_ 7 _ rfl; (with_reducible repeat (first | refine qa4 ?_ _ | refine qa5 ?_ | refine qa3 ?_ _)); refine qaa (cs := #[.int .i64 5, .int .i64 a1, .int .u64 0, .int .u64 0, .int .u64 0, .int .u64 0, .int .i64 0, .int .i64 0, .int .i64 0]) ?_ 6 _ rfl; (with_reducible repeat (first | refine qa4 ?_ _ | refine qa5 ?_ | refine qa3 ?_ _)); refine qaa (cs := #[.int .i64 5, .int .i64 a1, .int .u64 0, .int .u64 0, .int .u64 0, .int .u64 0, .int .i64 0, .int .i64 0, .int .i64 0]) ?_ 5 _ rfl; (with_reducible repeat (first | refine qa4 ?_ _ | refine qa5 ?_ | refine qa3 ?_ _)); refine qaa (cs := #[.int .i64 5, .int .i64 a1, .int .u64 0, .int .u64 0, .int .u64 0, .int .u64 0, .int .i64 0, .int .i64 0, .int .i64 0]) ?_ 4 _ rfl; (with_reducible repeat (first | refine qa4 ?_ _ | refine qa5 ?_ | refine qa3 ?_ _)); refine qaa (cs := #[.int .i64 5, .int .i64 a1, .int .u64 0, .int .u64 0, .int .u64 0, .int .u64 0, .int .i64 0, .int .i64 0, .int .i64 0]) ?_ 3 _ rfl; (with_reducible repeat (first | refine qa4 ?_ _ | refine qa5 ?_ | refine qa3 ?_ _)); refine qaa (cs := #[.int .i64 5, .int .i64 a1, .int .u64 0, .int .u64 0, .int .u64 0, .int .u64 0, .int .i64 0, .int .i64 0, .int .i64 0]) ?_ 2 _ rfl; (with_reducible repeat (first | refine qa4 ?_ _ | refine qa5 ?_ | refine qa3 ?_ _)); refine qaa (cs := #[.int .i64 5, .int .i64 0, .int .u64 0, .int .u64 0, .int .u64 0, .int .u64 0, .int .i64 0, .int .i64 0, .int .i64 0]) ?_ 1 _ rfl; (with_reducible repeat (first | refine qa4 ?_ _ | refine qa5 ?_ | refine qa3 ?_ _)); refine qaa (cs := #[.int .i64 0, .int .i64 0, .int .u64 0, .int .u64 0, .int .u64 0, .int .u64 0, .int .i64 0, .int .i64 0, .int .i64 0]) ?_ 0 _ rfl; (with_reducible repeat (first | refine qa4 ?_ _ | refine qa5 ?_ | refine qa3 ?_ _)); exact BK114.out) Try.underlying67 rfl (by kernel_rfl)) rfl ?_
         exact ⟨by first | rfl | (simp only [wrap_wrap]; done) | (simp only [wrap_wrap]; rfl) | (simp [qah, qai] <;> rfl) | (simp only [← hji9]; first | rfl | (simp [qah, qai] <;> rfl)) | (simp [*, qah, qai] <;> rfl), by repeat (first | (with_reducible first | exact HB.out | apply qa6 | apply qa7 | apply qa8 | refine qa9 ?_ GE114.out) | exact HB.out)⟩
       ·replace c21 := Bool.eq_false_iff.mpr c21
        subst c21
        have H1 : ((qbx.f a1 9).bind fun bt137 => (some (bt137.1, bt137.2.1, bt137.2.2.1, bt137.2.2.2.1, bt137.2.2.2.2.1, bt137.2.2.2.2.2.1, bt137.2.2.2.2.2.2.1, bt137.2.2.2.2.2.2.2.1, bt137.2.2.2.2.2.2.2.2, a1))) = some (r1, r2, r3, r4, r5, r6, r7, r8, r9, r10) := by rw [if_neg (show ¬ (false = true) by decide)] at H; exact H
        clear H
        have H := H1
        clear H1
        replace H := Option.bind_eq_some_iff.mp H
        obtain ⟨⟨t137, t138, t139, t140, t141, t142, t143, t144, t145⟩, A310, H⟩ := H
        replace H : (some (t137, t138, t139, t140, t141, t142, t143, t144, t145, a1)) = some (r1, r2, r3, r4, r5, r6, r7, r8, r9, r10) := H
        have A31 := qa0.mk A310
        clear A310
        simp only [Option.some.injEq, Prod.mk.injEq] at H
        obtain ⟨rfl, rfl, rfl, rfl, rfl, rfl, rfl, rfl, rfl, rfl⟩ := H
        go_enter Try.func49, Try.ntmps49
        go_wp2_with (first | ((with_reducible refine qb7 (N := 6) rfl ?_); refine qbb ?hg (N := 6) ?hd (cs := #[.int .i64 0, .int .i64 0, .int .u64 0, .int .u64 0, .int .u64 0, .int .u64 0, .int .i64 0, .int .i64 0, .int .i64 0]) (t := 67) ?hr ?_; (case hd => rfl); (case hg => rfl); (case hr => first | (go_simp; done) | (go_simp; rfl)); intro gb114 hg w32 hbox hb; have n0_ := qa0.mk (qap (by repeat (first | (with_reducible first | exact HB.out | apply qa6 | apply qa7 | apply qa8) | exact HB.out)) hb); have n1_ := qa0.mk (hbox); have n2_ := qa0.mk ((by rw [hg]; exact (qaq (by repeat (first | (with_reducible first | exact HB.out | apply qa6 | apply qa7 | apply qa8) | exact HB.out))) : w.heap.size ≤ gb114)); have n3_ := qa0.mk ((by rw [hg]; exact (qaq (by repeat (first | (with_reducible first | exact HB.out | apply qa6 | apply qa7 | apply qa8) | exact HB.out))) : w.heap.size ≤ gb114)); clear HB; have HB := n0_; have BK114 := n1_; have GW114 := n2_; have GE114 := n3_; clear n0_ n1_ n2_ n3_; clear hb hbox hg; have p12 : 0 ≤ ((ji9) : Int) := of_decide_eq_true (by first | (with_reducible assumption) | assumption); have q12 : (ji9) < (a0.size : Int) := of_decide_eq_true (by first | (with_reducible assumption) | assumption); have hx12 := qbz a0 (ji9); replace p12 := eq_true p12; replace q12 := eq_true q12) | ((with_reducible refine qbc (f := 61) rfl ?_); refine qcc (some 51) rfl rfl Try.func61 (by kernel_rfl) rfl #[.string a0, .int .i64 (wrap64 (a1 + 2))] rfl (by (try simp only [List.map_toArray, List.map_cons, List.map_nil]); first | done | rfl | (simp only [List.length_drop, List.length_take]; rfl)) ?_; (with_reducible refine (qal.calls k a0 (wrap64 (a1 + 2)) t124 t125 t126 false _ A20.out).mono ?_); rintro e w33 ⟨rfl, hb⟩; refine ⟨_, rfl, ?_⟩; have n0_ := qa0.mk (qae (g := gb114) (o := .cells #[.int .i64 0, .int .i64 0, .int .u64 0, .int .u64 0, .int .u64 0, .int .u64 0, .int .i64 0, .int .i64 0, .int .i64 0] 67 (0, 0)) (by (with_reducible repeat (first | refine qa4 ?_ _ | refine qa5 ?_ | refine qa3 ?_ _)); exact BK114.out) hb); have n1_ := qa0.mk (qap (by repeat (first | (with_reducible first | exact HB.out | apply qa6 | apply qa7 | apply qa8 | refine qa9 ?_ GE114.out) | exact HB.out)) hb); clear BK114; clear HB; have BK114 := n0_; have HB := n1_; clear n0_ n1_; (try clear hb); (try clear hb2); (try clear hk); (try clear hi)) | ((with_reducible refine qbc (f := 51) rfl ?_); refine qcc (some 62) rfl rfl Try.func51 (by kernel_rfl) rfl #[.int .i64 a1, .int .i64 9] rfl (by (try simp only [List.map_toArray, List.map_cons, List.map_nil]); first | done | rfl | (simp only [List.length_drop, List.length_take]; rfl)) ?_; (with_reducible refine (qbx.calls a1 9 t137 t138 t139 t140 t141 t142 t143 t144 t145 _ A31.out).mono ?_); rintro e w34 ⟨rfl, hb⟩; refine ⟨_, rfl, ?_⟩; have n0_ := qa0.mk (qae (g := gb114) (o := .cells #[.int .i64 0, .int .i64 0, .int .u64 0, .int .u64 0, .int .u64 0, .int .u64 0, .int .i64 0, .int .i64 0, .int .i64 0] 67 (0, 0)) (by (with_reducible repeat (first | refine qa4 ?_ _ | refine qa5 ?_ | refine qa3 ?_ _)); exact BK114.out) hb); have n1_ := qa0.mk (qap (by repeat (first | (with_reducible first | exact HB.out | apply qa6 | apply qa7 | apply qa8 | refine qa9 ?_ GE114.out) | exact HB.out)) hb); clear BK114; clear HB; have BK114 := n0_; have HB := n1_; clear n0_ n1_; (try clear hb); (try clear hb2); (try clear hk); (try clear hi); have hcz35_0 : w34.cell? ⟨gb114, 0, none⟩ = some (.int .i64 0) := (qa2 BK114.out 0).trans rfl; have hcz35_1 : w34.cell? ⟨gb114, 1, none⟩ = some (.int .i64 0) := (qa2 BK114.out 1).trans rfl; have hcz35_2 : w34.cell? ⟨gb114, 2, none⟩ = some (.int .u64 0) := (qa2 BK114.out 2).trans rfl; have hcz35_3 : w34.cell? ⟨gb114, 3, none⟩ = some (.int .u64 0) := (qa2 BK114.out 3).trans rfl; have hcz35_4 : w34.cell? ⟨gb114, 4, none⟩ = some (.int .u64 0) := (qa2 BK114.out 4).trans rfl; have hcz35_5 : w34.cell? ⟨gb114, 5, none⟩ = some (.int .u64 0) := (qa2 BK114.out 5).trans rfl; have hcz35_6 : w34.cell? ⟨gb114, 6, none⟩ = some (.int .i64 0) := (qa2 BK114.out 6).trans rfl; have hcz35_7 : w34.cell? ⟨gb114, 7, none⟩ = some (.int .i64 0) := (qa2 BK114.out 7).trans rfl; have hcz35_8 : w34.cell? ⟨gb114, 8, none⟩ = some (.int .i64 0) := (qa2 BK114.out 8).trans rfl; have hfz35_0 := qa1 BK114.out 0; have hfz35_1 := qa1 BK114.out 1; have hfz35_2 := qa1 BK114.out 2; have hfz35_3 := qa1 BK114.out 3; have hfz35_4 := qa1 BK114.out 4; have hfz35_5 := qa1 BK114.out 5; have hfz35_6 := qa1 BK114.out 6; have hfz35_7 := qa1 BK114.out 7; have hfz35_8 := qa1 BK114.out 8))
        refine bodyPost_ret (qbv rfl _ _ gb114 67 #[.int .i64 t137, .int .i64 t138, .int .u64 t139, .int .u64 t140, .int .u64 t141, .int .u64 t142, .int .i64 t143, .int .i64 t144, .int .i64 t145] (0, 0) _ rfl (by (with_reducible repeat (first | refine qa4 ?_ _ | refine qa5 ?_ | refine qa3 ?_ _)); refine qaa (cs := #[.int .i64 t137, .int .i64 t138, .int .u64 t139, .int .u64 t140, .int .u64 t141, .int .u64 t142, .int .i64 t143, .int .i64 t144, .int .i64 0]) ?_ 8 _ rfl; (with_reducible repeat (first | refine qa4 ?_ _ | refine qa5 ?_ | refine qa3 ?_ _)); refine qaa (cs := #[.int .i64 t137, .int .i64 t138, .int .u64 t139, .int .u64 t140, .int .u64 t141, .int .u64 t142, .int .i64 t143, .int .i64 0, .int .i64 0]) ?_ 7 _ rfl; (with_reducible repeat (first | refine qa4 ?_ _ | refine qa5 ?_ | refine qa3 ?_ _)); refine qaa (cs := #[.int .i64 t137, .int .i64 t138, .int .u64 t139, .int .u64 t140, .int .u64 t141, .int .u64 t142, .int .i64 0, .int .i64 0, .int .i64 0]) ?_ 6 _ rfl; (with_reducible repeat (first | refine qa4 ?_ _ | refine qa5 ?_ | refine qa3 ?_ _)); refine qaa (cs := #[.int .i64 t137, .int .i64 t138, .int .u64 t139, .int .u64 t140, .int .u64 t141, .int .u64 0, .int .i64 0, .int .i64 0, .int .i64 0]) ?_ 5 _ rfl; (with_reducible repeat (first | refine qa4 ?_ _ | refine qa5 ?_ | refine qa3 ?_ _)); refine qaa (cs := #[.int .i64 t137, .int .i64 t138, .int .u64 t139, .int .u64 t140, .int .u64 0, .int .u64 0, .int .i64 0, .int .i64 0, .int .i64 0]) ?_ 4 _ rfl; (with_reducible repeat (first | refine qa4 ?_ _ | refine qa5 ?_ | refine qa3 ?_ _)); refine qaa (cs := #[.int .i64 t137, .int .i64 t138, .int .u64 t139, .int .u64 0, .int .u64 0, .int .u64 0, .int .i64 0, .int .i64 0, .int .i64 0]) ?_ 3 _ rfl; (with_reducible repeat (first | refine qa4 ?_ _ | refine qa5 ?_ | refine qa3 ?_ _)); refine qaa (cs := #[.int .i64 t137, .int .i64 t138, .int .u64 0, .int .u64 0, .int .u64 0, .int .u64 0, .int .i64 0, .int .i64 0, .int .i64 0]) ?_ 2 _ rfl; (with_reducible repeat (first | refine qa4 ?_ _ | refine qa5 ?_ | refine qa3 ?_ _)); refine qaa (cs := #[.int .i64 t137, .int .i64 0, .int .u64 0, .int .u64 0, .int .u64 0, .int .u64 0, .int .i64 0, .int .i64 0, .int .i64 0]) ?_ 1 _ rfl; (with_reducible repeat (first | refine qa4 ?_ _ | refine qa5 ?_ | refine qa3 ?_ _)); refine qaa (cs := #[.int .i64 0, .int .i64 0, .int .u64 0, .int .u64 0, .int .u64 0, .int .u64 0, .int .i64 0, .int .i64 0, .int .i64 0]) ?_ 0 _ rfl; (with_reducible repeat (first | refine qa4 ?_ _ | refine qa5 ?_ | refine qa3 ?_ _)); exact BK114.out) Try.underlying67 rfl (by kernel_rfl)) rfl ?_
        exact ⟨by first | rfl | (simp only [wrap_wrap]; done) | (simp only [wrap_wrap]; rfl) | (simp [qah, qai] <;> rfl) | (simp only [← hji9]; first | rfl | (simp [qah, qai] <;> rfl)) | (simp [*, qah, qai] <;> rfl), by repeat (first | (with_reducible first | exact HB.out | apply qa6 | apply qa7 | apply qa8 | refine qa9 ?_ GE114.out) | exact HB.out)⟩
      ·rw [if_neg c19] at H
       have c19b0 : ((bt a0 (ji9)) == 123) = false := beq_eq_false_iff_ne.mpr c19
       have c19b1 : ((bt a0 (ji9)) != 123) = true := bne_iff_ne.mpr c19
       by_cases c36 : (bt a0 (ji9)) = 125
       ·rw [if_pos c36] at H
        have c36b0 : ((bt a0 (ji9)) == 125) = true := beq_iff_eq.mpr c36
        have c36b1 : ((bt a0 (ji9)) != 125) = false := bne_eq_false_iff_eq.mpr c36
        clear c36
        replace H := Option.bind_eq_some_iff.mp H
        obtain ⟨⟨t146, t147, t148, t149, t150, t151, t152, t153, t154⟩, A370, H⟩ := H
        replace H : (some (t146, t147, t148, t149, t150, t151, t152, t153, t154, a1)) = some (r1, r2, r3, r4, r5, r6, r7, r8, r9, r10) := H
        have A37 := qa0.mk A370
        clear A370
        simp only [Option.some.injEq, Prod.mk.injEq] at H
        obtain ⟨rfl, rfl, rfl, rfl, rfl, rfl, rfl, rfl, rfl, rfl⟩ := H
        go_enter Try.func49, Try.ntmps49
        go_wp2_with (first | ((with_reducible refine qb7 (N := 6) rfl ?_); refine qbb ?hg (N := 6) ?hd (cs := #[.int .i64 0, .int .i64 0, .int .u64 0, .int .u64 0, .int .u64 0, .int .u64 0, .int .i64 0, .int .i64 0, .int .i64 0]) (t := 67) ?hr ?_; (case hd => rfl); (case hg => rfl); (case hr => first | (go_simp; done) | (go_simp; rfl)); intro gb114 hg w38 hbox hb; have n0_ := qa0.mk (qap (by repeat (first | (with_reducible first | exact HB.out | apply qa6 | apply qa7 | apply qa8) | exact HB.out)) hb); have n1_ := qa0.mk (hbox); have n2_ := qa0.mk ((by rw [hg]; exact (qaq (by repeat (first | (with_reducible first | exact HB.out | apply qa6 | apply qa7 | apply qa8) | exact HB.out))) : w.heap.size ≤ gb114)); have n3_ := qa0.mk ((by rw [hg]; exact (qaq (by repeat (first | (with_reducible first | exact HB.out | apply qa6 | apply qa7 | apply qa8) | exact HB.out))) : w.heap.size ≤ gb114)); clear HB; have HB := n0_; have BK114 := n1_; have GW114 := n2_; have GE114 := n3_; clear n0_ n1_ n2_ n3_; clear hb hbox hg; have p12 : 0 ≤ ((ji9) : Int) := of_decide_eq_true (by first | (with_reducible assumption) | assumption); have q12 : (ji9) < (a0.size : Int) := of_decide_eq_true (by first | (with_reducible assumption) | assumption); have hx12 := qbz a0 (ji9); replace p12 := eq_true p12; replace q12 := eq_true q12) | ((with_reducible refine qbc (f := 51) rfl ?_); refine qcc (some 73) rfl rfl Try.func51 (by kernel_rfl) rfl #[.int .i64 a1, .int .i64 9] rfl (by (try simp only [List.map_toArray, List.map_cons, List.map_nil]); first | done | rfl | (simp only [List.length_drop, List.length_take]; rfl)) ?_; (with_reducible refine (qbx.calls a1 9 t146 t147 t148 t149 t150 t151 t152 t153 t154 _ A37.out).mono ?_); rintro e w39 ⟨rfl, hb⟩; refine ⟨_, rfl, ?_⟩; have n0_ := qa0.mk (qae (g := gb114) (o := .cells #[.int .i64 0, .int .i64 0, .int .u64 0, .int .u64 0, .int .u64 0, .int .u64 0, .int .i64 0, .int .i64 0, .int .i64 0] 67 (0, 0)) (by (with_reducible repeat (first | refine qa4 ?_ _ | refine qa5 ?_ | refine qa3 ?_ _)); exact BK114.out) hb); have n1_ := qa0.mk (qap (by repeat (first | (with_reducible first | exact HB.out | apply qa6 | apply qa7 | apply qa8 | refine qa9 ?_ GE114.out) | exact HB.out)) hb); clear BK114; clear HB; have BK114 := n0_; have HB := n1_; clear n0_ n1_; (try clear hb); (try clear hb2); (try clear hk); (try clear hi); have hcz40_0 : w39.cell? ⟨gb114, 0, none⟩ = some (.int .i64 0) := (qa2 BK114.out 0).trans rfl; have hcz40_1 : w39.cell? ⟨gb114, 1, none⟩ = some (.int .i64 0) := (qa2 BK114.out 1).trans rfl; have hcz40_2 : w39.cell? ⟨gb114, 2, none⟩ = some (.int .u64 0) := (qa2 BK114.out 2).trans rfl; have hcz40_3 : w39.cell? ⟨gb114, 3, none⟩ = some (.int .u64 0) := (qa2 BK114.out 3).trans rfl; have hcz40_4 : w39.cell? ⟨gb114, 4, none⟩ = some (.int .u64 0) := (qa2 BK114.out 4).trans rfl; have hcz40_5 : w39.cell? ⟨gb114, 5, none⟩ = some (.int .u64 0) := (qa2 BK114.out 5).trans rfl; have hcz40_6 : w39.cell? ⟨gb114, 6, none⟩ = some (.int .i64 0) := (qa2 BK114.out 6).trans rfl; have hcz40_7 : w39.cell? ⟨gb114, 7, none⟩ = some (.int .i64 0) := (qa2 BK114.out 7).trans rfl; have hcz40_8 : w39.cell? ⟨gb114, 8, none⟩ = some (.int .i64 0) := (qa2 BK114.out 8).trans rfl; have hfz40_0 := qa1 BK114.out 0; have hfz40_1 := qa1 BK114.out 1; have hfz40_2 := qa1 BK114.out 2; have hfz40_3 := qa1 BK114.out 3; have hfz40_4 := qa1 BK114.out 4; have hfz40_5 := qa1 BK114.out 5; have hfz40_6 := qa1 BK114.out 6; have hfz40_7 := qa1 BK114.out 7; have hfz40_8 := qa1 BK114.out 8))
        refine bodyPost_ret (qbv rfl _ _ gb114 67 #[.int .i64 t146, .int .i64 t147, .int .u64 t148, .int .u64 t149, .int .u64 t150, .int .u64 t151, .int .i64 t152, .int .i64 t153, .int .i64 t154] (0, 0) _ rfl (by (with_reducible repeat (first | refine qa4 ?_ _ | refine qa5 ?_ | refine qa3 ?_ _)); refine qaa (cs := #[.int .i64 t146, .int .i64 t147, .int .u64 t148, .int .u64 t149, .int .u64 t150, .int .u64 t151, .int .i64 t152, .int .i64 t153, .int .i64 0]) ?_ 8 _ rfl; (with_reducible repeat (first | refine qa4 ?_ _ | refine qa5 ?_ | refine qa3 ?_ _)); refine qaa (cs := #[.int .i64 t146, .int .i64 t147, .int .u64 t148, .int .u64 t149, .int .u64 t150, .int .u64 t151, .int .i64 t152, .int .i64 0, .int .i64 0]) ?_ 7 _ rfl; (with_reducible repeat (first | refine qa4 ?_ _ | refine qa5 ?_ | refine qa3 ?_ _)); refine qaa (cs := #[.int .i64 t146, .int .i64 t147, .int .u64 t148, .int .u64 t149, .int .u64 t150, .int .u64 t151, .int .i64 0, .int .i64 0, .int .i64 0]) ?_ 6 _ rfl; (with_reducible repeat (first | refine qa4 ?_ _ | refine qa5 ?_ | refine qa3 ?_ _)); refine qaa (cs := #[.int .i64 t146, .int .i64 t147, .int .u64 t148, .int .u64 t149, .int .u64 t150, .int .u64 0, .int .i64 0, .int .i64 0, .int .i64 0]) ?_ 5 _ rfl; (with_reducible repeat (first | refine qa4 ?_ _ | refine qa5 ?_ | refine qa3 ?_ _)); refine qaa (cs := #[.int .i64 t146, .int .i64 t147, .int .u64 t148, .int .u64 t149, .int .u64 0, .int .u64 0, .int .i64 0, .int .i64 0, .int .i64 0]) ?_ 4 _ rfl; (with_reducible repeat (first | refine qa4 ?_ _ | refine qa5 ?_ | refine qa3 ?_ _)); refine qaa (cs := #[.int .i64 t146, .int .i64 t147, .int .u64 t148, .int .u64 0, .int .u64 0, .int .u64 0, .int .i64 0, .int .i64 0, .int .i64 0]) ?_ 3 _ rfl; (with_reducible repeat (first | refine qa4 ?_ _ | refine qa5 ?_ | refine qa3 ?_ _)); refine qaa (cs := #[.int .i64 t146, .int .i64 t147, .int .u64 0, .int .u64 0, .int .u64 0, .int .u64 0, .int .i64 0, .int .i64 0, .int .i64 0]) ?_ 2 _ rfl; (with_reducible repeat (first | refine qa4 ?_ _ | refine qa5 ?_ | refine qa3 ?_ _)); refine qaa (cs := #[.int .i64 t146, .int .i64 0, .int .u64 0, .int .u64 0, .int .u64 0, .int .u64 0, .int .i64 0, .int .i64 0, .int .i64 0]) ?_ 1 _ rfl; (with_reducible repeat (first | refine qa4 ?_ _ | refine qa5 ?_ | refine qa3 ?_ _)); refine qaa (cs := #[.int .i64 0, .int .i64 0, .int .u64 0, .int .u64 0, .int .u64 0, .int .u64 0, .int .i64 0, .int .i64 0, .int .i64 0]) ?_ 0 _ rfl; (with_reducible repeat (first | refine qa4 ?_ _ | refine qa5 ?_ | refine qa3 ?_ _)); exact BK114.out) Try.underlying67 rfl (by kernel_rfl)) rfl ?_
        exact ⟨by first | rfl | (simp only [wrap_wrap]; done) | (simp only [wrap_wrap]; rfl) | (simp [qah, qai] <;> rfl) | (simp only [← hji9]; first | rfl | (simp [qah, qai] <;> rfl)) | (simp [*, qah, qai] <;> rfl), by repeat (first | (with_reducible first | exact HB.out | apply qa6 | apply qa7 | apply qa8 | refine qa9 ?_ GE114.out) | exact HB.out)⟩
       ·rw [if_neg c36] at H
        have c36b0 : ((bt a0 (ji9)) == 125) = false := beq_eq_false_iff_ne.mpr c36
        have c36b1 : ((bt a0 (ji9)) != 125) = true := bne_iff_ne.mpr c36
        by_cases c41 : (bt a0 (ji9)) = 110
        ·rw [if_pos c41] at H
         have c41b0 : ((bt a0 (ji9)) == 110) = true := beq_iff_eq.mpr c41
         have c41b1 : ((bt a0 (ji9)) != 110) = false := bne_eq_false_iff_eq.mpr c41
         clear c41
         replace H := Option.bind_eq_some_iff.mp H
         obtain ⟨⟨t155, t156, t157, t158, t159, t160, t161, t162, t163⟩, A420, H⟩ := H
         replace H : (some (t155, t156, t157, t158, t159, t160, t161, t162, t163, wrap64 (a1 + 2))) = some (r1, r2, r3, r4, r5, r6, r7, r8, r9, r10) := H
         have A42 := qa0.mk A420
         clear A420
         simp only [Option.some.injEq, Prod.mk.injEq] at H
         obtain ⟨rfl, rfl, rfl, rfl, rfl, rfl, rfl, rfl, rfl, rfl⟩ := H
         go_enter Try.func49, Try.ntmps49
         go_wp2_with (first | ((with_reducible refine qb7 (N := 6) rfl ?_); refine qbb ?hg (N := 6) ?hd (cs := #[.int .i64 0, .int .i64 0, .int .u64 0, .int .u64 0, .int .u64 0, .int .u64 0, .int .i64 0, .int .i64 0, .int .i64 0]) (t := 67) ?hr ?_; (case hd => rfl); (case hg => rfl); (case hr => first | (go_simp; done) | (go_simp; rfl)); intro gb114 hg w43 hbox hb; have n0_ := qa0.mk (qap (by repeat (first | (with_reducible first | exact HB.out | apply qa6 | apply qa7 | apply qa8) | exact HB.out)) hb); have n1_ := qa0.mk (hbox); have n2_ := qa0.mk ((by rw [hg]; exact (qaq (by repeat (first | (with_reducible first | exact HB.out | apply qa6 | apply qa7 | apply qa8) | exact HB.out))) : w.heap.size ≤ gb114)); have n3_ := qa0.mk ((by rw [hg]; exact (qaq (by repeat (first | (with_reducible first | exact HB.out | apply qa6 | apply qa7 | apply qa8) | exact HB.out))) : w.heap.size ≤ gb114)); clear HB; have HB := n0_; have BK114 := n1_; have GW114 := n2_; have GE114 := n3_; clear n0_ n1_ n2_ n3_; clear hb hbox hg; have p12 : 0 ≤ ((ji9) : Int) := of_decide_eq_true (by first | (with_reducible assumption) | assumption); have q12 : (ji9) < (a0.size : Int) := of_decide_eq_true (by first | (with_reducible assumption) | assumption); have hx12 := qbz a0 (ji9); replace p12 := eq_true p12; replace q12 := eq_true q12) | ((with_reducible refine qbc (f := 53) rfl ?_); refine qcc (some 79) rfl rfl Try.func53 (by kernel_rfl) rfl #[.int .i64 a1, .int .u8 10] rfl (by (try simp only [List.map_toArray, List.map_cons, List.map_nil]); first | done | rfl | (simp only [List.length_drop, List.length_take]; rfl)) ?_; (with_reducible refine (qci.calls a1 10 t155 t156 t157 t158 t159 t160 t161 t162 t163 _ A42.out).mono ?_); rintro e w44 ⟨rfl, hb⟩; refine ⟨_, rfl, ?_⟩; have n0_ := qa0.mk (qae (g := gb114) (o := .cells #[.int .i64 0, .int .i64 0, .int .u64 0, .int .u64 0, .int .u64 0, .int .u64 0, .int .i64 0, .int .i64 0, .int .i64 0] 67 (0, 0)) (by (with_reducible repeat (first | refine qa4 ?_ _ | refine qa5 ?_ | refine qa3 ?_ _)); exact BK114.out) hb); have n1_ := qa0.mk (qap (by repeat (first | (with_reducible first | exact HB.out | apply qa6 | apply qa7 | apply qa8 | refine qa9 ?_ GE114.out) | exact HB.out)) hb); clear BK114; clear HB; have BK114 := n0_; have HB := n1_; clear n0_ n1_; (try clear hb); (try clear hb2); (try clear hk); (try clear hi); have hcz45_0 : w44.cell? ⟨gb114, 0, none⟩ = some (.int .i64 0) := (qa2 BK114.out 0).trans rfl; have hcz45_1 : w44.cell? ⟨gb114, 1, none⟩ = some (.int .i64 0) := (qa2 BK114.out 1).trans rfl; have hcz45_2 : w44.cell? ⟨gb114, 2, none⟩ = some (.int .u64 0) := (qa2 BK114.out 2).trans rfl; have hcz45_3 : w44.cell? ⟨gb114, 3, none⟩ = some (.int .u64 0) := (qa2 BK114.out 3).trans rfl; have hcz45_4 : w44.cell? ⟨gb114, 4, none⟩ = some (.int .u64 0) := (qa2 BK114.out 4).trans rfl; have hcz45_5 : w44.cell? ⟨gb114, 5, none⟩ = some (.int .u64 0) := (qa2 BK114.out 5).trans rfl; have hcz45_6 : w44.cell? ⟨gb114, 6, none⟩ = some (.int .i64 0) := (qa2 BK114.out 6).trans rfl; have hcz45_7 : w44.cell? ⟨gb114, 7, none⟩ = some (.int .i64 0) := (qa2 BK114.out 7).trans rfl; have hcz45_8 : w44.cell? ⟨gb114, 8, none⟩ = some (.int .i64 0) := (qa2 BK114.out 8).trans rfl; have hfz45_0 := qa1 BK114.out 0; have hfz45_1 := qa1 BK114.out 1; have hfz45_2 := qa1 BK114.out 2; have hfz45_3 := qa1 BK114.out 3; have hfz45_4 := qa1 BK114.out 4; have hfz45_5 := qa1 BK114.out 5; have hfz45_6 := qa1 BK114.out 6; have hfz45_7 := qa1 BK114.out 7; have hfz45_8 := qa1 BK114.out 8))
         refine bodyPost_ret (qbv rfl _ _ gb114 67 #[.int .i64 t155, .int .i64 t156, .int .u64 t157, .int .u64 t158, .int .u64 t159, .int .u64 t160, .int .i64 t161, .int .i64 t162, .int .i64 t163] (0, 0) _ rfl (by (with_reducible repeat (first | refine qa4 ?_ _ | refine qa5 ?_ | refine qa3 ?_ _)); refine qaa (cs := #[.int .i64 t155, .int .i64 t156, .int .u64 t157, .int .u64 t158, .int .u64 t159, .int .u64 t160, .int .i64 t161, .int .i64 t162, .int .i64 0]) ?_ 8 _ rfl; (with_reducible repeat (first | refine qa4 ?_ _ | refine qa5 ?_ | refine qa3 ?_ _)); refine qaa (cs := #[.int .i64 t155, .int .i64 t156, .int .u64 t157, .int .u64 t158, .int .u64 t159, .int .u64 t160, .int .i64 t161, .int .i64 0, .int .i64 0]) ?_ 7 _ rfl; (with_reducible repeat (first | refine qa4 ?_ _ | refine qa5 ?_ | refine qa3 ?_ _)); refine qaa (cs := #[.int .i64 t155, .int .i64 t156, .int .u64 t157, .int .u64 t158, .int .u64 t159, .int .u64 t160, .int .i64 0, .int .i64 0, .int .i64 0]) ?_ 6 _ rfl; (with_reducible repeat (first | refine qa4 ?_ _ | refine qa5 ?_ | refine qa3 ?_ _)); refine qaa (cs := #[.int .i64 t155, .int .i64 t156, .int .u64 t157, .int .u64 t158, .int .u64 t159, .int .u64 0, .int .i64 0, .int .i64 0, .int .i64 0]) ?_ 5 _ rfl; (with_reducible repeat (first | refine qa4 ?_ _ | refine qa5 ?_ | refine qa3 ?_ _)); refine qaa (cs := #[.int .i64 t155, .int .i64 t156, .int .u64 t157, .int .u64 t158, .int .u64 0, .int .u64 0, .int .i64 0, .int .i64 0, .int .i64 0]) ?_ 4 _ rfl; (with_reducible repeat (first | refine qa4 ?_ _ | refine qa5 ?_ | refine qa3 ?_ _)); refine qaa (cs := #[.int .i64 t155, .int .i64 t156, .int .u64 t157, .int .u64 0, .int .u64 0, .int .u64 0, .int .i64 0, .int .i64 0, .int .i64 0]) ?_ 3 _ rfl; (with_reducible repeat (first | refine qa4 ?_ _ | refine qa5 ?_ | refine qa3 ?_ _)); refine qaa (cs := #[.int .i64 t155, .int .i64 t156, .int .u64 0, .int .u64 0, .int .u64 0, .int .u64 0, .int .i64 0, .int .i64 0, .int .i64 0]) ?_ 2 _ rfl; (with_reducible repeat (first | refine qa4 ?_ _ | refine qa5 ?_ | refine qa3 ?_ _)); refine qaa (cs := #[.int .i64 t155, .int .i64 0, .int .u64 0, .int .u64 0, .int .u64 0, .int .u64 0, .int .i64 0, .int .i64 0, .int .i64 0]) ?_ 1 _ rfl; (with_reducible repeat (first | refine qa4 ?_ _ | refine qa5 ?_ | refine qa3 ?_ _)); refine qaa (cs := #[.int .i64 0, .int .i64 0, .int .u64 0, .int .u64 0, .int .u64 0, .int .u64 0, .int .i64 0, .int .i64 0, .int .i64 0]) ?_ 0 _ rfl; (with_reducible repeat (first | refine qa4 ?_ _ | refine qa5 ?_ | refine qa3 ?_ _)); exact BK114.out) Try.underlying67 rfl (by kernel_rfl)) rfl ?_
         exact ⟨by first | rfl | (simp only [wrap_wrap]; done) | (simp only [wrap_wrap]; rfl) | (simp [qah, qai] <;> rfl) | (simp only [← hji9]; first | rfl | (simp [qah, qai] <;> rfl)) | (simp [*, qah, qai] <;> rfl), by repeat (first | (with_reducible first | exact HB.out | apply qa6 | apply qa7 | apply qa8 | refine qa9 ?_ GE114.out) | exact HB.out)⟩
        ·rw [if_neg c41] at H
         have c41b0 : ((bt a0 (ji9)) == 110) = false := beq_eq_false_iff_ne.mpr c41
         have c41b1 : ((bt a0 (ji9)) != 110) = true := bne_iff_ne.mpr c41
         have HC46 := qa0.mk H
         clear H
         go_enter Try.func49, Try.ntmps49
         go_upto_region 18 with (first | ((with_reducible refine qb7 (N := 6) rfl ?_); refine qbb ?hg (N := 6) ?hd (cs := #[.int .i64 0, .int .i64 0, .int .u64 0, .int .u64 0, .int .u64 0, .int .u64 0, .int .i64 0, .int .i64 0, .int .i64 0]) (t := 67) ?hr ?_; (case hd => rfl); (case hg => rfl); (case hr => first | (go_simp; done) | (go_simp; rfl)); intro gb114 hg w47 hbox hb; have n0_ := qa0.mk (qap (by repeat (first | (with_reducible first | exact HB.out | apply qa6 | apply qa7 | apply qa8) | exact HB.out)) hb); have n1_ := qa0.mk (hbox); have n2_ := qa0.mk ((by rw [hg]; exact (qaq (by repeat (first | (with_reducible first | exact HB.out | apply qa6 | apply qa7 | apply qa8) | exact HB.out))) : w.heap.size ≤ gb114)); have n3_ := qa0.mk ((by rw [hg]; exact (qaq (by repeat (first | (with_reducible first | exact HB.out | apply qa6 | apply qa7 | apply qa8) | exact HB.out))) : w.heap.size ≤ gb114)); clear HB; have HB := n0_; have BK114 := n1_; have GW114 := n2_; have GE114 := n3_; clear n0_ n1_ n2_ n3_; clear hb hbox hg; have p12 : 0 ≤ ((ji9) : Int) := of_decide_eq_true (by first | (with_reducible assumption) | assumption); have q12 : (ji9) < (a0.size : Int) := of_decide_eq_true (by first | (with_reducible assumption) | assumption); have hx12 := qbz a0 (ji9); replace p12 := eq_true p12; replace q12 := eq_true q12))
         (try simp only [Act.put, List.setIfInBounds_toArray, List.set_cons_zero, List.set_cons_succ])
         go_cut [82] (fun v82 wc => ∃ (kq : Nat) (x82_45 : Bool), v82 = .bool x82_45 ∧ qa0 (qb6.j0 kq a1 (bt a0 (ji9)) x82_45 = some (r1, r2, r3, r4, r5, r6, r7, r8, r9, r10)) ∧ qa0 (kq ≤ k) ∧ qa0 (wc.heap[gb114]? = some (.cells #[.int .i64 0, .int .i64 0, .int .u64 0, .int .u64 0, .int .u64 0, .int .u64 0, .int .i64 0, .int .i64 0, .int .i64 0] 67 (0, 0))) ∧ qa0 (Below w.heap.size w wc))
         case first =>
          have H := HC46.out
          clear HC46
          by_cases c48 : (bt a0 (ji9)) ≥ 49
          ·rw [if_pos c48] at H
           have c48b0 : decide (49 ≤ (bt a0 (ji9))) = true := decide_eq_true c48
           clear c48
           (first | rw [c48b0] | (simp only [qbk, qcl]; rw [c48b0]) | skip)
           have H' := qa0.mk H
           clear H
           go_wp2
           go_meet
           case rel => exact ⟨_, (decide ((bt a0 (ji9)) ≤ 57)), (by first | rfl | (simp; done) | (simp only [← hji9] <;> (first | rfl | simp)) | (simp [*]; done)), (by first | exact H' | (simp only [hji9]; exact H')), ⟨by first | omega | exact Nat.le_refl _⟩, ⟨by (with_reducible repeat (first | refine qa4 ?_ _ | refine qa5 ?_ | refine qa3 ?_ _)); exact BK114.out⟩, ⟨by repeat (first | (with_reducible first | exact HB.out | apply qa6 | apply qa7 | apply qa8 | refine qa9 ?_ GE114.out) | exact HB.out)⟩⟩
          ·rw [if_neg c48] at H
           have c48b0 : decide (49 ≤ (bt a0 (ji9))) = false := decide_eq_false c48
           clear c48
           (first | rw [c48b0] | (simp only [qbk, qcl]; rw [c48b0]) | skip)
           have H' := qa0.mk H
           clear H
           go_wp2
           go_meet
           case rel => exact ⟨_, (false), (by first | rfl | (simp; done) | (simp [*]; done) | (exfalso; simp only [decide_eq_true_eq] at *; omega)), (by first | exact H' | (simp only [hji9]; exact H')), ⟨by first | omega | exact Nat.le_refl _⟩, ⟨by (with_reducible repeat (first | refine qa4 ?_ _ | refine qa5 ?_ | refine qa3 ?_ _)); exact BK114.out⟩, ⟨by repeat (first | (with_reducible first | exact HB.out | apply qa6 | apply qa7 | apply qa8 | refine qa9 ?_ GE114.out) | exact HB.out)⟩⟩
         case rest =>
          clear HC46
          try clear c1
          try clear p1
          try clear q1
          try clear hx1
          try clear c2
          try clear p2
          try clear c3
          try clear c4
          try clear c4b0
          try clear c4b1
          try clear c5
          try clear c6
          try clear p6
          try clear c10
          try clear c10b0
          try clear c11
          try clear c11b0
          try clear p12
          try clear q12
          try clear hx12
          try clear c13
          try clear c13b0
          try clear c13b1
          try clear c16
          try clear c16b0
          try clear c16b1
          try clear c19
          try clear c19b0
          try clear c19b1
          try clear c21
          try clear c22
          try clear c36
          try clear c36b0
          try clear c36b1
          try clear c41
          try clear c41b0
          try clear c41b1
          try clear c48
          try clear c48b0
          try clear hcz15_0
          try clear hcz15_1
          try clear hcz15_2
          try clear hcz15_3
          try clear hcz15_4
          try clear hcz15_5
          try clear hcz15_6
          try clear hcz15_7
          try clear hcz15_8
          try clear hcz18_0
          try clear hcz18_1
          try clear hcz18_2
          try clear hcz18_3
          try clear hcz18_4
          try clear hcz18_5
          try clear hcz18_6
          try clear hcz18_7
          try clear hcz18_8
          try clear hcz27_0
          try clear hcz27_1
          try clear hcz27_2
          try clear hcz27_3
          try clear hcz27_4
          try clear hcz27_5
          try clear hcz27_6
          try clear hcz27_7
          try clear hcz27_8
          try clear hcz30_0
          try clear hcz30_1
          try clear hcz30_2
          try clear hcz30_3
          try clear hcz30_4
          try clear hcz30_5
          try clear hcz30_6
          try clear hcz30_7
          try clear hcz30_8
          try clear hcz35_0
          try clear hcz35_1
          try clear hcz35_2
          try clear hcz35_3
          try clear hcz35_4
          try clear hcz35_5
          try clear hcz35_6
          try clear hcz35_7
          try clear hcz35_8
          try clear hcz40_0
          try clear hcz40_1
          try clear hcz40_2
          try clear hcz40_3
          try clear hcz40_4
          try clear hcz40_5
          try clear hcz40_6
          try clear hcz40_7
          try clear hcz40_8
          try clear hcz45_0
          try clear hcz45_1
          try clear hcz45_2
          try clear hcz45_3
          try clear hcz45_4
          try clear hcz45_5
          try clear hcz45_6
          try clear hcz45_7
          try clear hcz45_8
          try clear hcz8_0
          try clear hcz8_1
          try clear hcz8_2
          try clear hcz8_3
          try clear hcz8_4
          try clear hcz8_5
          try clear hcz8_6
          try clear hcz8_7
          try clear hcz8_8
          try clear hfz15_0
          try clear hfz15_1
          try clear hfz15_2
          try clear hfz15_3
          try clear hfz15_4
          try clear hfz15_5
          try clear hfz15_6
          try clear hfz15_7
          try clear hfz15_8
          try clear hfz18_0
          try clear hfz18_1
          try clear hfz18_2
          try clear hfz18_3
          try clear hfz18_4
          try clear hfz18_5
          try clear hfz18_6
          try clear hfz18_7
          try clear hfz18_8
          try clear hfz27_0
          try clear hfz27_1
          try clear hfz27_2
          try clear hfz27_3
          try clear hfz27_4
          try clear hfz27_5
          try clear hfz27_6
          try clear hfz27_7
          try clear hfz27_8
          try clear hfz30_0
          try clear hfz30_1
          try clear hfz30_2
          try clear hfz30_3
          try clear hfz30_4
          try clear hfz30_5
          try clear hfz30_6
          try clear hfz30_7
          try clear hfz30_8
          try clear hfz35_0
          try clear hfz35_1
          try clear hfz35_2
          try clear hfz35_3
          try clear hfz35_4
          try clear hfz35_5
          try clear hfz35_6
          try clear hfz35_7
          try clear hfz35_8
          try clear hfz40_0
          try clear hfz40_1
          try clear hfz40_2
          try clear hfz40_3
          try clear hfz40_4
          try clear hfz40_5
          try clear hfz40_6
          try clear hfz40_7
          try clear hfz40_8
          try clear hfz45_0
          try clear hfz45_1
          try clear hfz45_2
          try clear hfz45_3
          try clear hfz45_4
          try clear hfz45_5
          try clear hfz45_6
          try clear hfz45_7
          try clear hfz45_8
          try clear hfz8_0
          try clear hfz8_1
          try clear hfz8_2
          try clear hfz8_3
          try clear hfz8_4
          try clear hfz8_5
          try clear hfz8_6
          try clear hfz8_7
          try clear hfz8_8
          try clear p12
          try clear q12
          obtain ⟨kq, x82_45, rfl, HA, HJ45, BK114, HB⟩ := hcut
          cases kq with
          | zero => exact absurd HA.out (by simp [qb6.j0])
          | succ kj45 =>
           have H := HA.out
           clear HA
           simp only [qb6.j0] at H
           by_cases c49 : x82_45 = true
           ·subst c49
            have H1 : (some (6, a1, 0, 0, 0, 0, ((bt a0 (ji9)) - 48) % 256, 0, 0, wrap64 (a1 + 2))) = some (r1, r2, r3, r4, r5, r6, r7, r8, r9, r10) := by rw [if_pos rfl] at H; exact H
            clear H
            have H := H1
            clear H1
            simp only [Option.some.injEq, Prod.mk.injEq] at H
            obtain ⟨rfl, rfl, rfl, rfl, rfl, rfl, rfl, rfl, rfl, rfl⟩ := H
            have hcz50_0 : wc.cell? ⟨gb114, 0, none⟩ = some (.int .i64 0) := (qa2 BK114.out 0).trans rfl
            have hcz50_1 : wc.cell? ⟨gb114, 1, none⟩ = some (.int .i64 0) := (qa2 BK114.out 1).trans rfl
            have hcz50_2 : wc.cell? ⟨gb114, 2, none⟩ = some (.int .u64 0) := (qa2 BK114.out 2).trans rfl
            have hcz50_3 : wc.cell? ⟨gb114, 3, none⟩ = some (.int .u64 0) := (qa2 BK114.out 3).trans rfl
            have hcz50_4 : wc.cell? ⟨gb114, 4, none⟩ = some (.int .u64 0) := (qa2 BK114.out 4).trans rfl
            have hcz50_5 : wc.cell? ⟨gb114, 5, none⟩ = some (.int .u64 0) := (qa2 BK114.out 5).trans rfl
            have hcz50_6 : wc.cell? ⟨gb114, 6, none⟩ = some (.int .i64 0) := (qa2 BK114.out 6).trans rfl
            have hcz50_7 : wc.cell? ⟨gb114, 7, none⟩ = some (.int .i64 0) := (qa2 BK114.out 7).trans rfl
            have hcz50_8 : wc.cell? ⟨gb114, 8, none⟩ = some (.int .i64 0) := (qa2 BK114.out 8).trans rfl
            have hfz50_0 := qa1 BK114.out 0
            have hfz50_1 := qa1 BK114.out 1
            have hfz50_2 := qa1 BK114.out 2
            have hfz50_3 := qa1 BK114.out 3
            have hfz50_4 := qa1 BK114.out 4
            have hfz50_5 := qa1 BK114.out 5
            have hfz50_6 := qa1 BK114.out 6
            have hfz50_7 := qa1 BK114.out 7
            have hfz50_8 := qa1 BK114.out 8
            go_wp2
            refine bodyPost_ret (qbv rfl _ _ gb114 67 #[.int .i64 6, .int .i64 a1, .int .u64 0, .int .u64 0, .int .u64 0, .int .u64 0, .int .i64 (((bt a0 (ji9)) - 48) % 256), .int .i64 0, .int .i64 0] (0, 0) _ rfl (by (with_reducible repeat (first | refine qa4 ?_ _ | refine qa5 ?_ | refine qa3 ?_ _)); refine qaa (cs := #[.int .i64 6, .int .i64 a1, .int .u64 0, .int .u64 0, .int .u64 0, .int .u64 0, .int .i64 (((bt a0 (ji9)) - 48) % 256), .int .i64 0, .int .i64 0]) ?_ 8 _ rfl; (with_reducible repeat (first | refine qa4 ?_ _ | refine qa5 ?_ | refine qa3 ?_ _)); refine qaa (cs := #[.int .i64 6, .int .i64 a1, .int .u64 0, .int .u64 0, .int .u64 0, .int .u64 0, .int .i64 (((bt a0 (ji9)) - 48) % 256), .int .i64 0, .int .i64 0]) ?_ 7 _ rfl; (with_reducible repeat (first | refine qa4 ?_ _ | refine qa5 ?_ | refine qa3 ?_ _)); refine qaa (cs := #[.int .i64 6, .int .i64 a1, .int .u64 0, .int .u64 0, .int .u64 0, .int .u64 0, .int .i64 0, .int .i64 0, .int .i64 0]) ?_ 6 _ rfl; (with_reducible repeat (first | refine qa4 ?_ _ | refine qa5 ?_ | refine qa3 ?_ _)); refine qaa (cs := #[.int .i64 6, .int .i64 a1, .int .u64 0, .int .u64 0, .int .u64 0, .int .u64 0, .int .i64 0, .int .i64 0, .int .i64 0]) ?_ 5 _ rfl; (with_reducible repeat (first | refine qa4 ?_ _ | refine qa5 ?_ | refine qa3 ?_ _)); refine qaa (cs := #[.int .i64 6, .int .i64 a1, .int .u64 0, .int .u64 0, .int .u64 0, .int .u64 0, .int .i64 0, .int .i64 0, .int .i64 0]) ?_ 4 _ rfl; (with_reducible repeat (first | refine qa4 ?_ _ | refine qa5 ?_ | refine qa3 ?_ _)); refine qaa (cs := #[.int .i64 6, .int .i64 a1, .int .u64 0, .int .u64 0, .int .u64 0, .int .u64 0, .int .i64 0, .int .i64 0, .int .i64 0]) ?_ 3 _ rfl; (with_reducible repeat (first | refine qa4 ?_ _ | refine qa5 ?_ | refine qa3 ?_ _)); refine qaa (cs := #[.int .i64 6, .int .i64 a1, .int .u64 0, .int .u64 0, .int .u64 0, .int .u64 0, .int .i64 0, .int .i64 0, .int .i64 0]) ?_ 2 _ rfl; (with_reducible repeat (first | refine qa4 ?_ _ | refine qa5 ?_ | refine qa3 ?_ _)); refine qaa (cs := #[.int .i64 6, .int .i64 0, .int .u64 0, .int .u64 0, .int .u64 0, .int .u64 0, .int .i64 0, .int .i64 0, .int .i64 0]) ?_ 1 _ rfl; (with_reducible repeat (first | refine qa4 ?_ _ | refine qa5 ?_ | refine qa3 ?_ _)); refine qaa (cs := #[.int .i64 0, .int .i64 0, .int .u64 0, .int .u64 0, .int .u64 0, .int .u64 0, .int .i64 0, .int .i64 0, .int .i64 0]) ?_ 0 _ rfl; (with_reducible repeat (first | refine qa4 ?_ _ | refine qa5 ?_ | refine qa3 ?_ _)); exact BK114.out) Try.underlying67 rfl (by kernel_rfl)) rfl ?_
            exact ⟨by first | rfl | (simp only [wrap_wrap]; done) | (simp only [wrap_wrap]; rfl) | (simp [qah, qai] <;> rfl) | (simp only [← hji9]; first | rfl | (simp [qah, qai] <;> rfl)) | (simp [*, qah, qai] <;> rfl), by repeat (first | (with_reducible first | exact HB.out | apply qa6 | apply qa7 | apply qa8 | refine qa9 ?_ GE114.out) | exact HB.out)⟩
           ·replace c49 := Bool.eq_false_iff.mpr c49
            subst c49
            have H1 : ((qdr.f (bt a0 (ji9))).bind fun t164 => (if t164 = true then ((qbx.f a1 12).bind fun bt165 => (some (bt165.1, bt165.2.1, bt165.2.2.1, bt165.2.2.2.1, bt165.2.2.2.2.1, bt165.2.2.2.2.2.1, bt165.2.2.2.2.2.2.1, bt165.2.2.2.2.2.2.2.1, bt165.2.2.2.2.2.2.2.2, a1))) else ((qci.f a1 (bt a0 (ji9))).bind fun bt174 => (some (bt174.1, bt174.2.1, bt174.2.2.1, bt174.2.2.2.1, bt174.2.2.2.2.1, bt174.2.2.2.2.2.1, bt174.2.2.2.2.2.2.1, bt174.2.2.2.2.2.2.2.1, bt174.2.2.2.2.2.2.2.2, wrap64 (a1 + 2)))))) = some (r1, r2, r3, r4, r5, r6, r7, r8, r9, r10) := by rw [if_neg (show ¬ (false = true) by decide)] at H; exact H
            clear H
            have H := H1
            clear H1
            replace H := Option.bind_eq_some_iff.mp H
            obtain ⟨t164, A510, H⟩ := H
            replace H : (if t164 = true then ((qbx.f a1 12).bind fun bt165 => (some (bt165.1, bt165.2.1, bt165.2.2.1, bt165.2.2.2.1, bt165.2.2.2.2.1, bt165.2.2.2.2.2.1, bt165.2.2.2.2.2.2.1, bt165.2.2.2.2.2.2.2.1, bt165.2.2.2.2.2.2.2.2, a1))) else ((qci.f a1 (bt a0 (ji9))).bind fun bt174 => (some (bt174.1, bt174.2.1, bt174.2.2.1, bt174.2.2.2.1, bt174.2.2.2.2.1, bt174.2.2.2.2.2.1, bt174.2.2.2.2.2.2.1, bt174.2.2.2.2.2.2.2.1, bt174.2.2.2.2.2.2.2.2, wrap64 (a1 + 2))))) = some (r1, r2, r3, r4, r5, r6, r7, r8, r9, r10) := H
            have A51 := qa0.mk A510
            clear A510
            by_cases c52 : t164 = true
            ·subst c52
             have H1 : ((qbx.f a1 12).bind fun bt165 => (some (bt165.1, bt165.2.1, bt165.2.2.1, bt165.2.2.2.1, bt165.2.2.2.2.1, bt165.2.2.2.2.2.1, bt165.2.2.2.2.2.2.1, bt165.2.2.2.2.2.2.2.1, bt165.2.2.2.2.2.2.2.2, a1))) = some (r1, r2, r3, r4, r5, r6, r7, r8, r9, r10) := by rw [if_pos rfl] at H; exact H
             clear H
             have H := H1
             clear H1
             replace H := Option.bind_eq_some_iff.mp H
             obtain ⟨⟨t165, t166, t167, t168, t169, t170, t171, t172, t173⟩, A530, H⟩ := H
             replace H : (some (t165, t166, t167, t168, t169, t170, t171, t172, t173, a1)) = some (r1, r2, r3, r4, r5, r6, r7, r8, r9, r10) := H
             have A53 := qa0.mk A530
             clear A530
             simp only [Option.some.injEq, Prod.mk.injEq] at H
             obtain ⟨rfl, rfl, rfl, rfl, rfl, rfl, rfl, rfl, rfl, rfl⟩ := H
             go_wp2_with (first | ((with_reducible refine qbc (f := 62) rfl ?_); refine qcc (some 98) rfl rfl Try.func62 (by kernel_rfl) rfl #[.int .u8 (bt a0 (ji9))] rfl (by (try simp only [List.map_toArray, List.map_cons, List.map_nil]); first | done | (simp only [hji9]; rfl) | rfl | (simp only [List.length_drop, List.length_take]; rfl)) ?_; (with_reducible refine (qdr.calls (bt a0 (ji9)) true _ A51.out).mono ?_); rintro e w' ⟨rfl, ⟨nd, rfl⟩⟩; refine ⟨_, rfl, ?_⟩; (try (rw [qis wc]; generalize hq_ : World.drewN wc _ = wc; have n0_ : qa0 (wc.heap[gb114]? = some (.cells #[.int .i64 0, .int .i64 0, .int .u64 0, .int .u64 0, .int .u64 0, .int .u64 0, .int .i64 0, .int .i64 0, .int .i64 0] 67 (0, 0))) := ⟨by rw [← hq_]; exact (by (with_reducible repeat (first | refine qa4 ?_ _ | refine qa5 ?_ | refine qa3 ?_ _)); exact BK114.out)⟩; have n1_ : qa0 (Below w.heap.size w wc) := ⟨by rw [← hq_]; exact (by repeat (first | (with_reducible first | exact HB.out | apply qa6 | apply qa7 | apply qa8 | refine qa9 ?_ GE114.out) | exact HB.out))⟩; clear BK114 HB hq_; have BK114 := n0_; have HB := n1_; clear n0_ n1_))) | ((with_reducible refine qbc (f := 51) rfl ?_); refine qcc (some 100) rfl rfl Try.func51 (by kernel_rfl) rfl #[.int .i64 a1, .int .i64 12] rfl (by (try simp only [List.map_toArray, List.map_cons, List.map_nil]); first | done | rfl | (simp only [List.length_drop, List.length_take]; rfl)) ?_; (with_reducible refine (qbx.calls a1 12 t165 t166 t167 t168 t169 t170 t171 t172 t173 _ A53.out).mono ?_); rintro e w54 ⟨rfl, hb⟩; refine ⟨_, rfl, ?_⟩; have n0_ := qa0.mk (qae (g := gb114) (o := .cells #[.int .i64 0, .int .i64 0, .int .u64 0, .int .u64 0, .int .u64 0, .int .u64 0, .int .i64 0, .int .i64 0, .int .i64 0] 67 (0, 0)) (by (with_reducible repeat (first | refine qa4 ?_ _ | refine qa5 ?_ | refine qa3 ?_ _)); exact BK114.out) hb); have n1_ := qa0.mk (qap (by repeat (first | (with_reducible first | exact HB.out | apply qa6 | apply qa7 | apply qa8 | refine qa9 ?_ GE114.out) | exact HB.out)) hb); clear BK114; clear HB; have BK114 := n0_; have HB := n1_; clear n0_ n1_; (try clear hb); (try clear hb2); (try clear hk); (try clear hi); have hcz55_0 : w54.cell? ⟨gb114, 0, none⟩ = some (.int .i64 0) := (qa2 BK114.out 0).trans rfl; have hcz55_1 : w54.cell? ⟨gb114, 1, none⟩ = some (.int .i64 0) := (qa2 BK114.out 1).trans rfl; have hcz55_2 : w54.cell? ⟨gb114, 2, none⟩ = some (.int .u64 0) := (qa2 BK114.out 2).trans rfl; have hcz55_3 : w54.cell? ⟨gb114, 3, none⟩ = some (.int .u64 0) := (qa2 BK114.out 3).trans rfl; have hcz55_4 : w54.cell? ⟨gb114, 4, none⟩ = some (.int .u64 0) := (qa2 BK114.out 4).trans rfl; have hcz55_5 : w54.cell? ⟨gb114, 5, none⟩ = some (.int .u64 0) := (qa2 BK114.out 5).trans rfl; have hcz55_6 : w54.cell? ⟨gb114, 6, none⟩ = some (.int .i64 0) := (qa2 BK114.out 6).trans rfl; have hcz55_7 : w54.cell? ⟨gb114, 7, none⟩ = some (.int .i64 0) := (qa2 BK114.out 7).trans rfl; have hcz55_8 : w54.cell? ⟨gb114, 8, none⟩ = some (.int .i64 0) := (qa2 BK114.out 8).trans rfl; have hfz55_0 := qa1 BK114.out 0; have hfz55_1 := qa1 BK114.out 1; have hfz55_2 := qa1 BK114.out 2; have hfz55_3 := qa1 BK114.out 3; have hfz55_4 := qa1 BK114.out 4; have hfz55_5 := qa1 BK114.out 5; have hfz55_6 := qa1 BK114.out 6; have hfz55_7 := qa1 BK114.out 7; have hfz55_8 := qa1 BK114.out 8))
             refine bodyPost_ret (qbv rfl _ _ gb114 67 #[.int .i64 t165, .int .i64 t166, .int .u64 t167, .int .u64 t168, .int .u64 t169, .int .u64 t170, .int .i64 t171, .int .i64 t172, .int .i64 t173] (0, 0) _ rfl (by (with_reducible repeat (first | refine qa4 ?_ _ | refine qa5 ?_ | refine qa3 ?_ _)); refine qaa (cs := #[.int .i64 t165, .int .i64 t166, .int .u64 t167, .int .u64 t168, .int .u64 t169, .int .u64 t170, .int .i64 t171, .int .i64 t172, .int .i64 0]) ?_ 8 _ rfl; (with_reducible repeat (first | refine qa4 ?_ _ | refine qa5 ?_ | refine qa3 ?_ _)); refine qaa (cs := #[.int .i64 t165, .int .i64 t166, .int .u64 t167, .int .u64 t168, .int .u64 t169, .int .u64 t170, .int .i64 t171, .int .i64 0, .int .i64 0]) ?_ 7 _ rfl; (with_reducible repeat (first | refine qa4 ?_ _ | refine qa5 ?_ | refine qa3 ?_ _)); refine qaa (cs := #[.int .i64 t165, .int .i64 t166, .int .u64 t167, .int .u64 t168, .int .u64 t169, .int .u64 t170, .int .i64 0, .int .i64 0, .int .i64 0]) ?_ 6 _ rfl; (with_reducible repeat (first | refine qa4 ?_ _ | refine qa5 ?_ | refine qa3 ?_ _)); refine qaa (cs := #[.int .i64 t165, .int .i64 t166, .int .u64 t167, .int .u64 t168, .int .u64 t169, .int .u64 0, .int .i64 0, .int .i64 0, .int .i64 0]) ?_ 5 _ rfl; (with_reducible repeat (first | refine qa4 ?_ _ | refine qa5 ?_ | refine qa3 ?_ _)); refine qaa (cs := #[.int .i64 t165, .int .i64 t166, .int .u64 t167, .int .u64 t168, .int .u64 0, .int .u64 0, .int .i64 0, .int .i64 0, .int .i64 0]) ?_ 4 _ rfl; (with_reducible repeat (first | refine qa4 ?_ _ | refine qa5 ?_ | refine qa3 ?_ _)); refine qaa (cs := #[.int .i64 t165, .int .i64 t166, .int .u64 t167, .int .u64 0, .int .u64 0, .int .u64 0, .int .i64 0, .int .i64 0, .int .i64 0]) ?_ 3 _ rfl; (with_reducible repeat (first | refine qa4 ?_ _ | refine qa5 ?_ | refine qa3 ?_ _)); refine qaa (cs := #[.int .i64 t165, .int .i64 t166, .int .u64 0, .int .u64 0, .int .u64 0, .int .u64 0, .int .i64 0, .int .i64 0, .int .i64 0]) ?_ 2 _ rfl; (with_reducible repeat (first | refine qa4 ?_ _ | refine qa5 ?_ | refine qa3 ?_ _)); refine qaa (cs := #[.int .i64 t165, .int .i64 0, .int .u64 0, .int .u64 0, .int .u64 0, .int .u64 0, .int .i64 0, .int .i64 0, .int .i64 0]) ?_ 1 _ rfl; (with_reducible repeat (first | refine qa4 ?_ _ | refine qa5 ?_ | refine qa3 ?_ _)); refine qaa (cs := #[.int .i64 0, .int .i64 0, .int .u64 0, .int .u64 0, .int .u64 0, .int .u64 0, .int .i64 0, .int .i64 0, .int .i64 0]) ?_ 0 _ rfl; (with_reducible repeat (first | refine qa4 ?_ _ | refine qa5 ?_ | refine qa3 ?_ _)); exact BK114.out) Try.underlying67 rfl (by kernel_rfl)) rfl ?_
             exact ⟨by first | rfl | (simp only [wrap_wrap]; done) | (simp only [wrap_wrap]; rfl) | (simp [qah, qai] <;> rfl) | (simp only [← hji9]; first | rfl | (simp [qah, qai] <;> rfl)) | (simp [*, qah, qai] <;> rfl), by repeat (first | (with_reducible first | exact HB.out | apply qa6 | apply qa7 | apply qa8 | refine qa9 ?_ GE114.out) | exact HB.out)⟩
            ·replace c52 := Bool.eq_false_iff.mpr c52
             subst c52
             have H1 : ((qci.f a1 (bt a0 (ji9))).bind fun bt174 => (some (bt174.1, bt174.2.1, bt174.2.2.1, bt174.2.2.2.1, bt174.2.2.2.2.1, bt174.2.2.2.2.2.1, bt174.2.2.2.2.2.2.1, bt174.2.2.2.2.2.2.2.1, bt174.2.2.2.2.2.2.2.2, wrap64 (a1 + 2)))) = some (r1, r2, r3, r4, r5, r6, r7, r8, r9, r10) := by rw [if_neg (show ¬ (false = true) by decide)] at H; exact H
             clear H
             have H := H1
             clear H1
             replace H := Option.bind_eq_some_iff.mp H
             obtain ⟨⟨t174, t175, t176, t177, t178, t179, t180, t181, t182⟩, A560, H⟩ := H
             replace H : (some (t174, t175, t176, t177, t178, t179, t180, t181, t182, wrap64 (a1 + 2))) = some (r1, r2, r3, r4, r5, r6, r7, r8, r9, r10) := H
             have A56 := qa0.mk A560
             clear A560
             simp only [Option.some.injEq, Prod.mk.injEq] at H
             obtain ⟨rfl, rfl, rfl, rfl, rfl, rfl, rfl, rfl, rfl, rfl⟩ := H
             go_wp2_with (first | ((with_reducible refine qbc (f := 62) rfl ?_); refine qcc (some 98) rfl rfl Try.func62 (by kernel_rfl) rfl #[.int .u8 (bt a0 (ji9))] rfl (by (try simp only [List.map_toArray, List.map_cons, List.map_nil]); first | done | (simp only [hji9]; rfl) | rfl | (simp only [List.length_drop, List.length_take]; rfl)) ?_; (with_reducible refine (qdr.calls (bt a0 (ji9)) false _ A51.out).mono ?_); rintro e w' ⟨rfl, ⟨nd, rfl⟩⟩; refine ⟨_, rfl, ?_⟩; (try (rw [qis wc]; generalize hq_ : World.drewN wc _ = wc; have n0_ : qa0 (wc.heap[gb114]? = some (.cells #[.int .i64 0, .int .i64 0, .int .u64 0, .int .u64 0, .int .u64 0, .int .u64 0, .int .i64 0, .int .i64 0, .int .i64 0] 67 (0, 0))) := ⟨by rw [← hq_]; exact (by (with_reducible repeat (first | refine qa4 ?_ _ | refine qa5 ?_ | refine qa3 ?_ _)); exact BK114.out)⟩; have n1_ : qa0 (Below w.heap.size w wc) := ⟨by rw [← hq_]; exact (by repeat (first | (with_reducible first | exact HB.out | apply qa6 | apply qa7 | apply qa8 | refine qa9 ?_ GE114.out) | exact HB.out))⟩; clear BK114 HB hq_; have BK114 := n0_; have HB := n1_; clear n0_ n1_))) | ((with_reducible refine qbc (f := 53) rfl ?_); refine qcc (some 27) rfl rfl Try.func53 (by kernel_rfl) rfl #[.int .i64 a1, .int .u8 (bt a0 (ji9))] rfl (by (try simp only [List.map_toArray, List.map_cons, List.map_nil]); first | done | (simp only [hji9]; rfl) | rfl | (simp only [List.length_drop, List.length_take]; rfl)) ?_; (with_reducible refine (qci.calls a1 (bt a0 (ji9)) t174 t175 t176 t177 t178 t179 t180 t181 t182 _ A56.out).mono ?_); rintro e w57 ⟨rfl, hb⟩; refine ⟨_, rfl, ?_⟩; have n0_ := qa0.mk (qae (g := gb114) (o := .cells #[.int .i64 0, .int .i64 0, .int .u64 0, .int .u64 0, .int .u64 0, .int .u64 0, .int .i64 0, .int .i64 0, .int .i64 0] 67 (0, 0)) (by (with_reducible repeat (first | refine qa4 ?_ _ | refine qa5 ?_ | refine qa3 ?_ _)); exact BK114.out) hb); have n1_ := qa0.mk (qap (by repeat (first | (with_reducible first | exact HB.out | apply qa6 | apply qa7 | apply qa8 | refine qa9 ?_ GE114.out) | exact HB.out)) hb); clear BK114; clear HB; have BK114 := n0_; have HB := n1_; clear n0_ n1_; (try clear hb); (try clear hb2); (try clear hk); (try clear hi); have hcz58_0 : w57.cell? ⟨gb114, 0, none⟩ = some (.int .i64 0) := (qa2 BK114.out 0).trans rfl; have hcz58_1 : w57.cell? ⟨gb114, 1, none⟩ = some (.int .i64 0) := (qa2 BK114.out 1).trans rfl; have hcz58_2 : w57.cell? ⟨gb114, 2, none⟩ = some (.int .u64 0) := (qa2 BK114.out 2).trans rfl; have hcz58_3 : w57.cell? ⟨gb114, 3, none⟩ = some (.int .u64 0) := (qa2 BK114.out 3).trans rfl; have hcz58_4 : w57.cell? ⟨gb114, 4, none⟩ = some (.int .u64 0) := (qa2 BK114.out 4).trans rfl; have hcz58_5 : w57.cell? ⟨gb114, 5, none⟩ = some (.int .u64 0) := (qa2 BK114.out 5).trans rfl; have hcz58_6 : w57.cell? ⟨gb114, 6, none⟩ = some (.int .i64 0) := (qa2 BK114.out 6).trans rfl; have hcz58_7 : w57.cell? ⟨gb114, 7, none⟩ = some (.int .i64 0) := (qa2 BK114.out 7).trans rfl; have hcz58_8 : w57.cell? ⟨gb114, 8, none⟩ = some (.int .i64 0) := (qa2 BK114.out 8).trans rfl; have hfz58_0 := qa1 BK114.out 0; have hfz58_1 := qa1 BK114.out 1; have hfz58_2 := qa1 BK114.out 2; have hfz58_3 := qa1 BK114.out 3; have hfz58_4 := qa1 BK114.out 4; have hfz58_5 := qa1 BK114.out 5; have hfz58_6 := qa1 BK114.out 6; have hfz58_7 := qa1 BK114.out 7; have hfz58_8 := qa1 BK114.out 8))
             refine bodyPost_ret (qbv rfl _ _ gb114 67 #[.int .i64 t174, .int .i64 t175, .int .u64 t176, .int .u64 t177, .int .u64 t178, .int .u64 t179, .int .i64 t180, .int .i64 t181, .int .i64 t182] (0, 0) _ rfl (by (with_reducible repeat (first | refine qa4 ?_ _ | refine qa5 ?_ | refine qa3 ?_ _)); refine qaa (cs := #[.int .i64 t174, .int .i64 t175, .int .u64 t176, .int .u64 t177, .int .u64 t178, .int .u64 t179, .int .i64 t180, .int .i64 t181, .int .i64 0]) ?_ 8 _ rfl; (with_reducible repeat (first | refine qa4 ?_ _ | refine qa5 ?_ | refine qa3 ?_ _)); refine qaa (cs := #[.int .i64 t174, .int .i64 t175, .int .u64 t176, .int .u64 t177, .int .u64 t178, .int .u64 t179, .int .i64 t180, .int .i64 0, .int .i64 0]) ?_ 7 _ rfl; (with_reducible repeat (first | refine qa4 ?_ _ | refine qa5 ?_ | refine qa3 ?_ _)); refine qaa (cs := #[.int .i64 t174, .int .i64 t175, .int .u64 t176, .int .u64 t177, .int .u64 t178, .int .u64 t179, .int .i64 0, .int .i64 0, .int .i64 0]) ?_ 6 _ rfl; (with_reducible repeat (first | refine qa4 ?_ _ | refine qa5 ?_ | refine qa3 ?_ _)); refine qaa (cs := #[.int .i64 t174, .int .i64 t175, .int .u64 t176, .int .u64 t177, .int .u64 t178, .int .u64 0, .int .i64 0, .int .i64 0, .int .i64 0]) ?_ 5 _ rfl; (with_reducible repeat (first | refine qa4 ?_ _ | refine qa5 ?_ | refine qa3 ?_ _)); refine qaa (cs := #[.int .i64 t174, .int .i64 t175, .int .u64 t176, .int .u64 t177, .int .u64 0, .int .u64 0, .int .i64 0, .int .i64 0, .int .i64 0]) ?_ 4 _ rfl; (with_reducible repeat (first | refine qa4 ?_ _ | refine qa5 ?_ | refine qa3 ?_ _)); refine qaa (cs := #[.int .i64 t174, .int .i64 t175, .int .u64 t176, .int .u64 0, .int .u64 0, .int .u64 0, .int .i64 0, .int .i64 0, .int .i64 0]) ?_ 3 _ rfl; (with_reducible repeat (first | refine qa4 ?_ _ | refine qa5 ?_ | refine qa3 ?_ _)); refine qaa (cs := #[.int .i64 t174, .int .i64 t175, .int .u64 0, .int .u64 0, .int .u64 0, .int .u64 0, .int .i64 0, .int .i64 0, .int .i64 0]) ?_ 2 _ rfl; (with_reducible repeat (first | refine qa4 ?_ _ | refine qa5 ?_ | refine qa3 ?_ _)); refine qaa (cs := #[.int .i64 t174, .int .i64 0, .int .u64 0, .int .u64 0, .int .u64 0, .int .u64 0, .int .i64 0, .int .i64 0, .int .i64 0]) ?_ 1 _ rfl; (with_reducible repeat (first | refine qa4 ?_ _ | refine qa5 ?_ | refine qa3 ?_ _)); refine qaa (cs := #[.int .i64 0, .int .i64 0, .int .u64 0, .int .u64 0, .int .u64 0, .int .u64 0, .int .i64 0, .int .i64 0, .int .i64 0]) ?_ 0 _ rfl; (with_reducible repeat (first | refine qa4 ?_ _ | refine qa5 ?_ | refine qa3 ?_ _)); exact BK114.out) Try.underlying67 rfl (by kernel_rfl)) rfl ?_
             exact ⟨by first | rfl | (simp only [wrap_wrap]; done) | (simp only [wrap_wrap]; rfl) | (simp [qah, qai] <;> rfl) | (simp only [← hji9]; first | rfl | (simp [qah, qai] <;> rfl)) | (simp [*, qah, qai] <;> rfl), by repeat (first | (with_reducible first | exact HB.out | apply qa6 | apply qa7 | apply qa8 | refine qa9 ?_ GE114.out) | exact HB.out)⟩
   ·rw [if_neg c11] at H
    exact absurd H (by simp)
  ·rw [if_neg c10] at H
   exact absurd H (by simp)
end Go.Proofs.Ytcmipoicnonaeaa.F
end
