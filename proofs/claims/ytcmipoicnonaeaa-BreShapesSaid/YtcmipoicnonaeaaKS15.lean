/- Texts of this claim, 15 of 29: F33. -/

import Derived.Test.YtcmipoicnonaeaaKS4
import Derived.Test.YtcmipoicnonaeaaKS7
import Derived.Test.YtcmipoicnonaeaaKS9
import Derived.Test.YtcmipoicnonaeaaKS13
import Derived.Test.YtcmipoicnonaeaaKS14
section
namespace Go.Proofs.Ytcmipoicnonaeaa.F
open Go.RowKit Go.Proofs.YtcmipoicnonaeaaW.PrintWords Go.Proofs.YtcmipoicnonaeaaW.PrintLast Go.Proofs.YtcmipoicnonaeaaW.PrintMore
attribute [local go_sem] qbs qbr qc7 qc0 qbh qbj qbp qbq
set_option linter.unusedVariables false
set_option linter.unusedSimpArgs false
mutual
def qb9.j0 : Nat → ByteArray → Int → Bool → Int → Bool → Option (Int × Int × Int × Int × Int × Int × Int × Int × Int × Int)
 | 0, _, _, _, _, _ => none
 | k + 1, x0, x1, x2, x10, x60 => if x60 = true then (some (5, x1, 0, 0, 0, 0, 0, (-1), 0, wrap64 (x1 + 1))) else (if x10 = 94 then (qb9.j1 k x0 x1 x10 x2) else (qb9.j1 k x0 x1 x10 false))
def qb9.j1 : Nat → ByteArray → Int → Int → Bool → Option (Int × Int × Int × Int × Int × Int × Int × Int × Int × Int)
 | 0, _, _, _, _ => none
 | k + 1, x0, x1, x10, x71 => if x71 = true then (some (1, x1, 0, 0, 0, 0, 0, 0, 0, wrap64 (x1 + 1))) else (if x10 = 36 then (if (wrap64 (x1 + 1)) = (x0.size : Int) then (some (2, x1, 0, 0, 0, 0, 0, 0, 0, wrap64 (x1 + 1))) else (if (wrap64 (x1 + 2)) < (x0.size : Int) then (if 0 ≤ (wrap64 (x1 + 1)) then (if (wrap64 (x1 + 1)) ≤ (wrap64 (x1 + 3)) then (if (wrap64 (x1 + 3)) ≤ (x0.size : Int) then (if (x0.extract ((wrap64 (x1 + 1)) : Int).toNat ((wrap64 (x1 + 3)) : Int).toNat).toList = ([92, 41] : List UInt8) then (some (2, x1, 0, 0, 0, 0, 0, 0, 0, wrap64 (x1 + 1))) else ((qci.f x1 x10).bind fun bt216 => (some (bt216.1, bt216.2.1, bt216.2.2.1, bt216.2.2.2.1, bt216.2.2.2.2.1, bt216.2.2.2.2.2.1, bt216.2.2.2.2.2.2.1, bt216.2.2.2.2.2.2.2.1, bt216.2.2.2.2.2.2.2.2, wrap64 (x1 + 1))))) else (none)) else (none)) else (none)) else ((qci.f x1 x10).bind fun bt225 => (some (bt225.1, bt225.2.1, bt225.2.2.1, bt225.2.2.2.1, bt225.2.2.2.2.1, bt225.2.2.2.2.2.1, bt225.2.2.2.2.2.2.1, bt225.2.2.2.2.2.2.2.1, bt225.2.2.2.2.2.2.2.2, wrap64 (x1 + 1)))))) else ((qci.f x1 x10).bind fun bt234 => (some (bt234.1, bt234.2.1, bt234.2.2.1, bt234.2.2.2.1, bt234.2.2.2.2.1, bt234.2.2.2.2.2.1, bt234.2.2.2.2.2.2.1, bt234.2.2.2.2.2.2.2.1, bt234.2.2.2.2.2.2.2.2, wrap64 (x1 + 1)))))
end
def qb9.f (k : Nat) (a0 : ByteArray) (a1 : Int) (a2 : Bool) (a3 : Bool) : Option (Int × Int × Int × Int × Int × Int × Int × Int × Int × Int) := if 0 ≤ a1 then (if a1 < (a0.size : Int) then (if (bt a0 a1) = 92 then ((qb6.f k a0 a1 a3).bind fun bt186 => (some (bt186.1, bt186.2.1, bt186.2.2.1, bt186.2.2.2.1, bt186.2.2.2.2.1, bt186.2.2.2.2.2.1, bt186.2.2.2.2.2.2.1, bt186.2.2.2.2.2.2.2.1, bt186.2.2.2.2.2.2.2.2.1, bt186.2.2.2.2.2.2.2.2.2))) else (if (bt a0 a1) = 91 then ((qbu.f a0 a1).bind fun bt196 => (if bt196.2.2.2.2.2 = 0 then (some (0, a1, bt196.1, bt196.2.1, bt196.2.2.1, bt196.2.2.2.1, 0, 0, 0, bt196.2.2.2.2.1)) else ((qbx.f a1 bt196.2.2.2.2.2).bind fun bt203 => (some (bt203.1, bt203.2.1, bt203.2.2.1, bt203.2.2.2.1, bt203.2.2.2.2.1, bt203.2.2.2.2.2.1, bt203.2.2.2.2.2.2.1, bt203.2.2.2.2.2.2.2.1, bt203.2.2.2.2.2.2.2.2, a1))))) else (if (bt a0 a1) = 46 then ((qeb.f 0 0 0 0).bind fun bt212 => (some (0, a1, bt212.1, bt212.2.1, bt212.2.2.1, bt212.2.2.2, 0, 0, 0, wrap64 (a1 + 1)))) else (if (bt a0 a1) = 42 then (qb9.j0 k a0 a1 a2 (bt a0 a1) (!a3)) else (qb9.j0 k a0 a1 a2 (bt a0 a1) false))))) else (none)) else (none)
theorem qb9.qcs : ∀ k, (∀ y0 y1 y2 y3 y4, LeO (qb9.j0 k y0 y1 y2 y3 y4) (qb9.j0 (k + 1) y0 y1 y2 y3 y4)) ∧ (∀ y0 y1 y2 y3, LeO (qb9.j1 k y0 y1 y2 y3) (qb9.j1 (k + 1) y0 y1 y2 y3))
 | 0 => ⟨fun _ _ _ _ _ r h => by simp [qb9.j0] at h, fun _ _ _ _ r h => by simp [qb9.j1] at h⟩
 | k + 1 => by
  obtain ⟨ih0, ih1⟩ := qb9.qcs k
  refine ⟨?_, ?_⟩
  ·intro y0 y1 y2 y3 y4
   unfold qb9.j0
   repeat' first
   | (with_reducible exact ih0 _ _ _ _ _)
   | (with_reducible exact ih1 _ _ _ _)
   | (with_reducible exact qb6.mono _ _ _ _)
   | (with_reducible exact LeO.refl _)
   | (with_reducible exact LeO.none _)
   | (with_reducible refine LeO.ite ?_ ?_)
   | (with_reducible refine LeO.bind ?_ (fun _ => ?_))
   | exact ih0 _ _ _ _ _
   | exact ih1 _ _ _ _
   | exact qb6.mono _ _ _ _
   | exact LeO.none _
   | refine LeO.ite ?_ ?_
   | refine LeO.bind ?_ (fun _ => ?_)
  ·intro y0 y1 y2 y3
   unfold qb9.j1
   repeat' first
   | (with_reducible exact ih0 _ _ _ _ _)
   | (with_reducible exact ih1 _ _ _ _)
   | (with_reducible exact qb6.mono _ _ _ _)
   | (with_reducible exact LeO.refl _)
   | (with_reducible exact LeO.none _)
   | (with_reducible refine LeO.ite ?_ ?_)
   | (with_reducible refine LeO.bind ?_ (fun _ => ?_))
   | exact ih0 _ _ _ _ _
   | exact ih1 _ _ _ _
   | exact qb6.mono _ _ _ _
   | exact LeO.none _
   | refine LeO.ite ?_ ?_
   | refine LeO.bind ?_ (fun _ => ?_)
theorem qb9.mono : ∀ a0 a1 a2 a3 k, LeO (qb9.f k a0 a1 a2 a3) (qb9.f (k + 1) a0 a1 a2 a3) := by
 intro a0 a1 a2 a3 k
 obtain ⟨ih0, ih1⟩ := qb9.qcs k
 unfold qb9.f
 repeat' first
   | (with_reducible exact ih0 _ _ _ _ _)
   | (with_reducible exact ih1 _ _ _ _)
   | (with_reducible exact qb6.mono _ _ _ _)
   | (with_reducible exact LeO.refl _)
   | (with_reducible exact LeO.none _)
   | (with_reducible refine LeO.ite ?_ ?_)
   | (with_reducible refine LeO.bind ?_ (fun _ => ?_))
   | exact ih0 _ _ _ _ _
   | exact ih1 _ _ _ _
   | exact qb6.mono _ _ _ _
   | exact LeO.none _
   | refine LeO.ite ?_ ?_
   | refine LeO.bind ?_ (fun _ => ?_)
set_option maxHeartbeats 8000000 in
set_option maxRecDepth 100000 in
theorem qb9.calls (k : Nat) (a0 : ByteArray) (a1 : Int) (a2 : Bool) (a3 : Bool) (r1 : Int) (r2 : Int) (r3 : Int) (r4 : Int) (r5 : Int) (r6 : Int) (r7 : Int) (r8 : Int) (r9 : Int) (r10 : Int) (w : World) (hMD : ML w) (h : qb9.f k a0 a1 a2 a3 = some (r1, r2, r3, r4, r5, r6, r7, r8, r9, r10)) :
  Calls Try.prog 33 #[.string a0, .int .i64 a1, .bool a2, .bool a3] w fun e w' => e = .returned (.tuple #[.agg #[.int .i64 r1, .int .i64 r2, .int .u64 r3, .int .u64 r4, .int .u64 r5, .int .u64 r6, .int .i64 r7, .int .i64 r8, .int .i64 r9], .int .i64 r10]) ∧ Below w.heap.size w w' := by
 have HMD := qa0.mk hMD
 clear hMD
 have hu67 := Try.underlying67
 have hu24 := Try.underlying24
 have HB := qa0.mk (Below.refl w.heap.size w)
 have H : (if 0 ≤ a1 then (if a1 < (a0.size : Int) then (if (bt a0 a1) = 92 then ((qb6.f k a0 a1 a3).bind fun bt186 => (some (bt186.1, bt186.2.1, bt186.2.2.1, bt186.2.2.2.1, bt186.2.2.2.2.1, bt186.2.2.2.2.2.1, bt186.2.2.2.2.2.2.1, bt186.2.2.2.2.2.2.2.1, bt186.2.2.2.2.2.2.2.2.1, bt186.2.2.2.2.2.2.2.2.2))) else (if (bt a0 a1) = 91 then ((qbu.f a0 a1).bind fun bt196 => (if bt196.2.2.2.2.2 = 0 then (some (0, a1, bt196.1, bt196.2.1, bt196.2.2.1, bt196.2.2.2.1, 0, 0, 0, bt196.2.2.2.2.1)) else ((qbx.f a1 bt196.2.2.2.2.2).bind fun bt203 => (some (bt203.1, bt203.2.1, bt203.2.2.1, bt203.2.2.2.1, bt203.2.2.2.2.1, bt203.2.2.2.2.2.1, bt203.2.2.2.2.2.2.1, bt203.2.2.2.2.2.2.2.1, bt203.2.2.2.2.2.2.2.2, a1))))) else (if (bt a0 a1) = 46 then ((qeb.f 0 0 0 0).bind fun bt212 => (some (0, a1, bt212.1, bt212.2.1, bt212.2.2.1, bt212.2.2.2, 0, 0, 0, wrap64 (a1 + 1)))) else (if (bt a0 a1) = 42 then (qb9.j0 k a0 a1 a2 (bt a0 a1) (!a3)) else (qb9.j0 k a0 a1 a2 (bt a0 a1) false))))) else (none)) else (none)) = some (r1, r2, r3, r4, r5, r6, r7, r8, r9, r10) := h
 clear h
 by_cases c5 : 0 ≤ a1
 ·rw [if_pos c5] at H
  have c5b0 : decide (0 ≤ a1) = true := decide_eq_true c5
  clear c5
  by_cases c6 : a1 < (a0.size : Int)
  ·rw [if_pos c6] at H
   have c6b0 : decide (a1 < (a0.size : Int)) = true := decide_eq_true c6
   clear c6
   by_cases c8 : (bt a0 a1) = 92
   ·rw [if_pos c8] at H
    have c8b0 : ((bt a0 a1) == 92) = true := beq_iff_eq.mpr c8
    have c8b1 : ((bt a0 a1) != 92) = false := bne_eq_false_iff_eq.mpr c8
    clear c8
    replace H := Option.bind_eq_some_iff.mp H
    obtain ⟨⟨t186, t187, t188, t189, t190, t191, t192, t193, t194, t195⟩, A90, H⟩ := H
    replace H : (some (t186, t187, t188, t189, t190, t191, t192, t193, t194, t195)) = some (r1, r2, r3, r4, r5, r6, r7, r8, r9, r10) := H
    have A9 := qa0.mk A90
    clear A90
    simp only [Option.some.injEq, Prod.mk.injEq] at H
    obtain ⟨rfl, rfl, rfl, rfl, rfl, rfl, rfl, rfl, rfl, rfl⟩ := H
    go_enter Try.func33, Try.ntmps33
    go_wp2_with (first | ((with_reducible refine qb7 (N := 8) rfl ?_); (try (refine qcd (by rfl) ?_; dsimp only)); refine qbb ?hg (N := 8) ?hd (cs := #[.int .i64 0, .int .i64 0, .int .u64 0, .int .u64 0, .int .u64 0, .int .u64 0, .int .i64 0, .int .i64 0, .int .i64 0]) (t := 67) ?hr ?_; (case hd => rfl); (case hg => rfl); (case hr => first | (go_simp; done) | (go_simp; rfl)); intro gb185 hg w10 hbox hb; have n0_ := qa0.mk (qap (by repeat (first | (with_reducible first | exact HB.out | apply qa6 | apply qa7 | apply qa8) | exact HB.out)) hb); have n1_ := qa0.mk (hbox); have n2_ := qa0.mk ((by rw [hg]; exact (qaq (by repeat (first | (with_reducible first | exact HB.out | apply qa6 | apply qa7 | apply qa8) | exact HB.out))) : w.heap.size ≤ gb185)); have n3_ := qa0.mk ((by rw [hg]; exact (qaq (by repeat (first | (with_reducible first | exact HB.out | apply qa6 | apply qa7 | apply qa8) | exact HB.out))) : w.heap.size ≤ gb185)); clear HB; have HB := n0_; have BK185 := n1_; have GW185 := n2_; have GE185 := n3_; clear n0_ n1_ n2_ n3_; clear hb hbox hg; have p7 : 0 ≤ (a1 : Int) := of_decide_eq_true (by first | (with_reducible assumption) | assumption); have q7 : a1 < (a0.size : Int) := of_decide_eq_true (by first | (with_reducible assumption) | assumption); have hx7 := qbz a0 a1; replace p7 := eq_true p7; replace q7 := eq_true q7) | ((with_reducible refine qbc (f := 49) rfl ?_); refine qcc (some 28) rfl rfl Try.func49 (by kernel_rfl) rfl #[.string a0, .int .i64 a1, .bool a3] rfl (by (try simp only [List.map_toArray, List.map_cons, List.map_nil]); first | done | rfl | (simp only [List.length_drop, List.length_take]; rfl)) ?_; (with_reducible refine (qb6.calls k a0 a1 a3 t186 t187 t188 t189 t190 t191 t192 t193 t194 t195 _ A9.out).mono ?_); rintro e w11 ⟨rfl, hb⟩; refine ⟨_, rfl, ?_⟩; have n0_ := qa0.mk (qae (g := gb185) (o := .cells #[.int .i64 0, .int .i64 0, .int .u64 0, .int .u64 0, .int .u64 0, .int .u64 0, .int .i64 0, .int .i64 0, .int .i64 0] 67 (0, 0)) (by (with_reducible repeat (first | refine qa4 ?_ _ | refine qa5 ?_ | refine qa3 ?_ _)); exact BK185.out) hb); have n1_ := qa0.mk (qap (by repeat (first | (with_reducible first | exact HB.out | apply qa6 | apply qa7 | apply qa8 | refine qa9 ?_ GE185.out) | exact HB.out)) hb); clear BK185; clear HB; have BK185 := n0_; have HB := n1_; clear n0_ n1_; (try clear hb); (try clear hb2); (try clear hk); (try clear hi); have hcz12_0 : w11.cell? ⟨gb185, 0, none⟩ = some (.int .i64 0) := (qa2 BK185.out 0).trans rfl; have hcz12_1 : w11.cell? ⟨gb185, 1, none⟩ = some (.int .i64 0) := (qa2 BK185.out 1).trans rfl; have hcz12_2 : w11.cell? ⟨gb185, 2, none⟩ = some (.int .u64 0) := (qa2 BK185.out 2).trans rfl; have hcz12_3 : w11.cell? ⟨gb185, 3, none⟩ = some (.int .u64 0) := (qa2 BK185.out 3).trans rfl; have hcz12_4 : w11.cell? ⟨gb185, 4, none⟩ = some (.int .u64 0) := (qa2 BK185.out 4).trans rfl; have hcz12_5 : w11.cell? ⟨gb185, 5, none⟩ = some (.int .u64 0) := (qa2 BK185.out 5).trans rfl; have hcz12_6 : w11.cell? ⟨gb185, 6, none⟩ = some (.int .i64 0) := (qa2 BK185.out 6).trans rfl; have hcz12_7 : w11.cell? ⟨gb185, 7, none⟩ = some (.int .i64 0) := (qa2 BK185.out 7).trans rfl; have hcz12_8 : w11.cell? ⟨gb185, 8, none⟩ = some (.int .i64 0) := (qa2 BK185.out 8).trans rfl; have hfz12_0 := qa1 BK185.out 0; have hfz12_1 := qa1 BK185.out 1; have hfz12_2 := qa1 BK185.out 2; have hfz12_3 := qa1 BK185.out 3; have hfz12_4 := qa1 BK185.out 4; have hfz12_5 := qa1 BK185.out 5; have hfz12_6 := qa1 BK185.out 6; have hfz12_7 := qa1 BK185.out 7; have hfz12_8 := qa1 BK185.out 8))
    refine bodyPost_ret (qbv rfl _ _ gb185 67 #[.int .i64 t186, .int .i64 t187, .int .u64 t188, .int .u64 t189, .int .u64 t190, .int .u64 t191, .int .i64 t192, .int .i64 t193, .int .i64 t194] (0, 0) _ rfl (by (with_reducible repeat (first | refine qa4 ?_ _ | refine qa5 ?_ | refine qa3 ?_ _)); refine qaa (cs := #[.int .i64 t186, .int .i64 t187, .int .u64 t188, .int .u64 t189, .int .u64 t190, .int .u64 t191, .int .i64 t192, .int .i64 t193, .int .i64 0]) ?_ 8 _ rfl; (with_reducible repeat (first | refine qa4 ?_ _ | refine qa5 ?_ | refine qa3 ?_ _)); refine qaa (cs := #[.int .i64 t186, .int .i64 t187, .int .u64 t188, .int .u64 t189, .int .u64 t190, .int .u64 t191, .int .i64 t192, .int .i64 0, .int .i64 0]) ?_ 7 _ rfl; (with_reducible repeat (first | refine qa4 ?_ _ | refine qa5 ?_ | refine qa3 ?_ _)); refine qaa (cs := #[.int .i64 t186, .int .i64 t187, .int .u64 t188, .int .u64 t189, .int .u64 t190, .int .u64 t191, .int .i64 0, .int .i64 0, .int .i64 0]) ?_ 6 _ rfl; (with_reducible repeat (first | refine qa4 ?_ _ | refine qa5 ?_ | refine qa3 ?_ _)); refine qaa (cs := #[.int .i64 t186, .int .i64 t187, .int .u64 t188, .int .u64 t189, .int .u64 t190, .int .u64 0, .int .i64 0, .int .i64 0, .int .i64 0]) ?_ 5 _ rfl; (with_reducible repeat (first | refine qa4 ?_ _ | refine qa5 ?_ | refine qa3 ?_ _)); refine qaa (cs := #[.int .i64 t186, .int .i64 t187, .int .u64 t188, .int .u64 t189, .int .u64 0, .int .u64 0, .int .i64 0, .int .i64 0, .int .i64 0]) ?_ 4 _ rfl; (with_reducible repeat (first | refine qa4 ?_ _ | refine qa5 ?_ | refine qa3 ?_ _)); refine qaa (cs := #[.int .i64 t186, .int .i64 t187, .int .u64 t188, .int .u64 0, .int .u64 0, .int .u64 0, .int .i64 0, .int .i64 0, .int .i64 0]) ?_ 3 _ rfl; (with_reducible repeat (first | refine qa4 ?_ _ | refine qa5 ?_ | refine qa3 ?_ _)); refine qaa (cs := #[.int .i64 t186, .int .i64 t187, .int .u64 0, .int .u64 0, .int .u64 0, .int .u64 0, .int .i64 0, .int .i64 0, .int .i64 0]) ?_ 2 _ rfl; (with_reducible repeat (first | refine qa4 ?_ _ | refine qa5 ?_ | refine qa3 ?_ _)); refine qaa (cs := #[.int .i64 t186, .int .i64 0, .int .u64 0, .int .u64 0, .int .u64 0, .int .u64 0, .int .i64 0, .int .i64 0, .int .i64 0]) ?_ 1 _ rfl; (with_reducible repeat (first | refine qa4 ?_ _ | refine qa5 ?_ | refine qa3 ?_ _)); refine qaa (cs := #[.int .i64 0, .int .i64 0, .int .u64 0, .int .u64 0, .int .u64 0, .int .u64 0, .int .i64 0, .int .i64 0, .int .i64 0]) ?_ 0 _ rfl; (with_reducible repeat (first | refine qa4 ?_ _ | refine qa5 ?_ | refine qa3 ?_ _)); exact BK185.out) Try.underlying67 rfl (by kernel_rfl)) rfl ?_
    exact ⟨by first | rfl | (simp only [wrap_wrap]; done) | (simp only [wrap_wrap]; rfl) | (simp [qah, qai] <;> rfl) | (simp [*, qah, qai] <;> rfl), by repeat (first | (with_reducible first | exact HB.out | apply qa6 | apply qa7 | apply qa8 | refine qa9 ?_ GE185.out) | exact HB.out)⟩
   ·rw [if_neg c8] at H
    have c8b0 : ((bt a0 a1) == 92) = false := beq_eq_false_iff_ne.mpr c8
    have c8b1 : ((bt a0 a1) != 92) = true := bne_iff_ne.mpr c8
    by_cases c13 : (bt a0 a1) = 91
    ·rw [if_pos c13] at H
     have c13b0 : ((bt a0 a1) == 91) = true := beq_iff_eq.mpr c13
     have c13b1 : ((bt a0 a1) != 91) = false := bne_eq_false_iff_eq.mpr c13
     clear c13
     replace H := Option.bind_eq_some_iff.mp H
     obtain ⟨⟨t196, t197, t198, t199, t200, t201⟩, A140, H⟩ := H
     replace H : (if t201 = 0 then (some (0, a1, t196, t197, t198, t199, 0, 0, 0, t200)) else ((qbx.f a1 t201).bind fun bt203 => (some (bt203.1, bt203.2.1, bt203.2.2.1, bt203.2.2.2.1, bt203.2.2.2.2.1, bt203.2.2.2.2.2.1, bt203.2.2.2.2.2.2.1, bt203.2.2.2.2.2.2.2.1, bt203.2.2.2.2.2.2.2.2, a1)))) = some (r1, r2, r3, r4, r5, r6, r7, r8, r9, r10) := H
     have A14 := qa0.mk A140
     clear A140
     by_cases c15 : t201 = 0
     ·rw [if_pos c15] at H
      have c15b0 : (t201 == 0) = true := beq_iff_eq.mpr c15
      have c15b1 : (t201 != 0) = false := bne_eq_false_iff_eq.mpr c15
      clear c15
      simp only [Option.some.injEq, Prod.mk.injEq] at H
      obtain ⟨rfl, rfl, rfl, rfl, rfl, rfl, rfl, rfl, rfl, rfl⟩ := H
      go_enter Try.func33, Try.ntmps33
      go_wp2_with (first | ((with_reducible refine qb7 (N := 8) rfl ?_); (try (refine qcd (by rfl) ?_; dsimp only)); refine qbb ?hg (N := 8) ?hd (cs := #[.int .i64 0, .int .i64 0, .int .u64 0, .int .u64 0, .int .u64 0, .int .u64 0, .int .i64 0, .int .i64 0, .int .i64 0]) (t := 67) ?hr ?_; (case hd => rfl); (case hg => rfl); (case hr => first | (go_simp; done) | (go_simp; rfl)); intro gb185 hg w16 hbox hb; have n0_ := qa0.mk (qap (by repeat (first | (with_reducible first | exact HB.out | apply qa6 | apply qa7 | apply qa8) | exact HB.out)) hb); have n1_ := qa0.mk (hbox); have n2_ := qa0.mk ((by rw [hg]; exact (qaq (by repeat (first | (with_reducible first | exact HB.out | apply qa6 | apply qa7 | apply qa8) | exact HB.out))) : w.heap.size ≤ gb185)); have n3_ := qa0.mk ((by rw [hg]; exact (qaq (by repeat (first | (with_reducible first | exact HB.out | apply qa6 | apply qa7 | apply qa8) | exact HB.out))) : w.heap.size ≤ gb185)); clear HB; have HB := n0_; have BK185 := n1_; have GW185 := n2_; have GE185 := n3_; clear n0_ n1_ n2_ n3_; clear hb hbox hg; have p7 : 0 ≤ (a1 : Int) := of_decide_eq_true (by first | (with_reducible assumption) | assumption); have q7 : a1 < (a0.size : Int) := of_decide_eq_true (by first | (with_reducible assumption) | assumption); have hx7 := qbz a0 a1; replace p7 := eq_true p7; replace q7 := eq_true q7) | ((with_reducible refine qbc (f := 50) rfl ?_); refine qcc (some 37) rfl rfl Try.func50 (by kernel_rfl) rfl #[.string a0, .int .i64 a1] rfl (by (try simp only [List.map_toArray, List.map_cons, List.map_nil]); first | done | rfl | (simp only [List.length_drop, List.length_take]; rfl)) ?_; (with_reducible refine (qbu.calls a0 a1 t196 t197 t198 t199 t200 t201 _ ?hmd A14.out).mono ?_); (case hmd => exact (HMD.out.below (by repeat (first | (with_reducible first | exact HB.out | apply qa6 | apply qa7 | apply qa8 | refine qa9 ?_ GE185.out) | exact HB.out)))); rintro e w17 ⟨rfl, hb⟩; refine ⟨_, rfl, ?_⟩; have n0_ := qa0.mk (qae (g := gb185) (o := .cells #[.int .i64 0, .int .i64 0, .int .u64 0, .int .u64 0, .int .u64 0, .int .u64 0, .int .i64 0, .int .i64 0, .int .i64 0] 67 (0, 0)) (by (with_reducible repeat (first | refine qa4 ?_ _ | refine qa5 ?_ | refine qa3 ?_ _)); exact BK185.out) hb); have n1_ := qa0.mk (qap (by repeat (first | (with_reducible first | exact HB.out | apply qa6 | apply qa7 | apply qa8 | refine qa9 ?_ GE185.out) | exact HB.out)) hb); clear BK185; clear HB; have BK185 := n0_; have HB := n1_; clear n0_ n1_; (try clear hb); (try clear hb2); (try clear hk); (try clear hi)) | ((with_reducible refine qb7 (N := 11) rfl ?_); (try (refine qcd (by rfl) ?_; dsimp only)); refine qbb ?hg (N := 11) ?hd (cs := #[.int .u64 0, .int .u64 0, .int .u64 0, .int .u64 0]) (t := 24) ?hr ?_; (case hd => rfl); (case hg => rfl); (case hr => first | (go_simp; done) | (go_simp; rfl)); intro gb202 hg w18 hbox hb; have n0_ := qa0.mk (qae (g := gb185) (o := .cells #[.int .i64 0, .int .i64 0, .int .u64 0, .int .u64 0, .int .u64 0, .int .u64 0, .int .i64 0, .int .i64 0, .int .i64 0] 67 (0, 0)) (by (with_reducible repeat (first | refine qa4 ?_ _ | refine qa5 ?_ | refine qa3 ?_ _)); exact BK185.out) hb); have n1_ := qa0.mk (qap (by repeat (first | (with_reducible first | exact HB.out | apply qa6 | apply qa7 | apply qa8 | refine qa9 ?_ GE185.out) | exact HB.out)) hb); have n2_ := qa0.mk (hbox); have n3_ := qa0.mk ((by rw [hg]; exact (qaq (by repeat (first | (with_reducible first | exact HB.out | apply qa6 | apply qa7 | apply qa8 | refine qa9 ?_ GE185.out) | exact HB.out))) : w.heap.size ≤ gb202)); have n4_ := qa0.mk ((by rw [hg]; exact (qaq (by repeat (first | (with_reducible first | exact HB.out | apply qa6 | apply qa7 | apply qa8 | refine qa9 ?_ GE185.out) | exact HB.out))) : w.heap.size ≤ gb202)); have n5_ := qa0.mk ((by rw [hg]; exact Nat.ne_of_lt (qam (g := gb185) (o := .cells #[.int .i64 0, .int .i64 0, .int .u64 0, .int .u64 0, .int .u64 0, .int .u64 0, .int .i64 0, .int .i64 0, .int .i64 0] 67 (0, 0)) (by (with_reducible repeat (first | refine qa4 ?_ _ | refine qa5 ?_ | refine qa3 ?_ _)); exact BK185.out)) : gb185 ≠ gb202)); have n6_ := qa0.mk ((by rw [hg]; exact Nat.ne_of_gt (qam (g := gb185) (o := .cells #[.int .i64 0, .int .i64 0, .int .u64 0, .int .u64 0, .int .u64 0, .int .u64 0, .int .i64 0, .int .i64 0, .int .i64 0] 67 (0, 0)) (by (with_reducible repeat (first | refine qa4 ?_ _ | refine qa5 ?_ | refine qa3 ?_ _)); exact BK185.out)) : gb202 ≠ gb185)); clear BK185; clear HB; have BK185 := n0_; have HB := n1_; have BK202 := n2_; have GW202 := n3_; have GE202 := n4_; have NB185_202 := n5_; have NB202_185 := n6_; clear n0_ n1_ n2_ n3_ n4_ n5_ n6_; clear hb hbox hg; have hnb19 := NB202_185.out; have hnc19 := NB185_202.out; have hcz20_0 : w18.cell? ⟨gb202, 0, none⟩ = some (.int .u64 0) := (qa2 BK202.out 0).trans rfl; have hcz20_1 : w18.cell? ⟨gb202, 1, none⟩ = some (.int .u64 0) := (qa2 BK202.out 1).trans rfl; have hcz20_2 : w18.cell? ⟨gb202, 2, none⟩ = some (.int .u64 0) := (qa2 BK202.out 2).trans rfl; have hcz20_3 : w18.cell? ⟨gb202, 3, none⟩ = some (.int .u64 0) := (qa2 BK202.out 3).trans rfl; have hfz20_0 := qa1 BK202.out 0; have hfz20_1 := qa1 BK202.out 1; have hfz20_2 := qa1 BK202.out 2; have hfz20_3 := qa1 BK202.out 3; have hcz21_0 : w18.cell? ⟨gb185, 0, none⟩ = some (.int .i64 0) := (qa2 BK185.out 0).trans rfl; have hcz21_1 : w18.cell? ⟨gb185, 1, none⟩ = some (.int .i64 0) := (qa2 BK185.out 1).trans rfl; have hcz21_2 : w18.cell? ⟨gb185, 2, none⟩ = some (.int .u64 0) := (qa2 BK185.out 2).trans rfl; have hcz21_3 : w18.cell? ⟨gb185, 3, none⟩ = some (.int .u64 0) := (qa2 BK185.out 3).trans rfl; have hcz21_4 : w18.cell? ⟨gb185, 4, none⟩ = some (.int .u64 0) := (qa2 BK185.out 4).trans rfl; have hcz21_5 : w18.cell? ⟨gb185, 5, none⟩ = some (.int .u64 0) := (qa2 BK185.out 5).trans rfl; have hcz21_6 : w18.cell? ⟨gb185, 6, none⟩ = some (.int .i64 0) := (qa2 BK185.out 6).trans rfl; have hcz21_7 : w18.cell? ⟨gb185, 7, none⟩ = some (.int .i64 0) := (qa2 BK185.out 7).trans rfl; have hcz21_8 : w18.cell? ⟨gb185, 8, none⟩ = some (.int .i64 0) := (qa2 BK185.out 8).trans rfl; have hfz21_0 := qa1 BK185.out 0; have hfz21_1 := qa1 BK185.out 1; have hfz21_2 := qa1 BK185.out 2; have hfz21_3 := qa1 BK185.out 3; have hfz21_4 := qa1 BK185.out 4; have hfz21_5 := qa1 BK185.out 5; have hfz21_6 := qa1 BK185.out 6; have hfz21_7 := qa1 BK185.out 7; have hfz21_8 := qa1 BK185.out 8))
      refine bodyPost_ret (qbv rfl _ _ gb185 67 #[.int .i64 0, .int .i64 a1, .int .u64 t196, .int .u64 t197, .int .u64 t198, .int .u64 t199, .int .i64 0, .int .i64 0, .int .i64 0] (0, 0) _ rfl (by (with_reducible repeat (first | refine qa4 ?_ _ | refine qa5 ?_ | refine qa3 ?_ _)); refine qaa (cs := #[.int .i64 0, .int .i64 a1, .int .u64 t196, .int .u64 t197, .int .u64 t198, .int .u64 t199, .int .i64 0, .int .i64 0, .int .i64 0]) ?_ 8 _ rfl; (with_reducible repeat (first | refine qa4 ?_ _ | refine qa5 ?_ | refine qa3 ?_ _)); refine qaa (cs := #[.int .i64 0, .int .i64 a1, .int .u64 t196, .int .u64 t197, .int .u64 t198, .int .u64 t199, .int .i64 0, .int .i64 0, .int .i64 0]) ?_ 7 _ rfl; (with_reducible repeat (first | refine qa4 ?_ _ | refine qa5 ?_ | refine qa3 ?_ _)); refine qaa (cs := #[.int .i64 0, .int .i64 a1, .int .u64 t196, .int .u64 t197, .int .u64 t198, .int .u64 t199, .int .i64 0, .int .i64 0, .int .i64 0]) ?_ 6 _ rfl; (with_reducible repeat (first | refine qa4 ?_ _ | refine qa5 ?_ | refine qa3 ?_ _)); refine qaa (cs := #[.int .i64 0, .int .i64 a1, .int .u64 t196, .int .u64 t197, .int .u64 t198, .int .u64 0, .int .i64 0, .int .i64 0, .int .i64 0]) ?_ 5 _ rfl; (with_reducible repeat (first | refine qa4 ?_ _ | refine qa5 ?_ | refine qa3 ?_ _)); refine qaa (cs := #[.int .i64 0, .int .i64 a1, .int .u64 t196, .int .u64 t197, .int .u64 0, .int .u64 0, .int .i64 0, .int .i64 0, .int .i64 0]) ?_ 4 _ rfl; (with_reducible repeat (first | refine qa4 ?_ _ | refine qa5 ?_ | refine qa3 ?_ _)); refine qaa (cs := #[.int .i64 0, .int .i64 a1, .int .u64 t196, .int .u64 0, .int .u64 0, .int .u64 0, .int .i64 0, .int .i64 0, .int .i64 0]) ?_ 3 _ rfl; (with_reducible repeat (first | refine qa4 ?_ _ | refine qa5 ?_ | refine qa3 ?_ _)); refine qaa (cs := #[.int .i64 0, .int .i64 a1, .int .u64 0, .int .u64 0, .int .u64 0, .int .u64 0, .int .i64 0, .int .i64 0, .int .i64 0]) ?_ 2 _ rfl; (with_reducible repeat (first | refine qa4 ?_ _ | refine qa5 ?_ | refine qa3 ?_ _)); refine qaa (cs := #[.int .i64 0, .int .i64 0, .int .u64 0, .int .u64 0, .int .u64 0, .int .u64 0, .int .i64 0, .int .i64 0, .int .i64 0]) ?_ 1 _ rfl; (with_reducible repeat (first | refine qa4 ?_ _ | refine qa5 ?_ | refine qa3 ?_ _)); refine qaa (cs := #[.int .i64 0, .int .i64 0, .int .u64 0, .int .u64 0, .int .u64 0, .int .u64 0, .int .i64 0, .int .i64 0, .int .i64 0]) ?_ 0 _ rfl; (with_reducible repeat (first | refine qa4 ?_ _ | refine qa5 ?_ | refine qa3 ?_ _)); refine qaj ?_ NB185_202.out _; (with_reducible repeat (first | refine qa4 ?_ _ | refine qa5 ?_ | refine qa3 ?_ _)); refine qaj ?_ NB185_202.out _; (with_reducible repeat (first | refine qa4 ?_ _ | refine qa5 ?_ | refine qa3 ?_ _)); refine qaj ?_ NB185_202.out _; (with_reducible repeat (first | refine qa4 ?_ _ | refine qa5 ?_ | refine qa3 ?_ _)); refine qaj ?_ NB185_202.out _; (with_reducible repeat (first | refine qa4 ?_ _ | refine qa5 ?_ | refine qa3 ?_ _)); exact BK185.out) Try.underlying67 rfl (by kernel_rfl)) rfl ?_
      exact ⟨by first | rfl | (simp only [wrap_wrap]; done) | (simp only [wrap_wrap]; rfl) | (simp [qah, qai] <;> rfl) | (simp [*, qah, qai] <;> rfl), by repeat (first | (with_reducible first | exact HB.out | apply qa6 | apply qa7 | apply qa8 | refine qa9 ?_ GE185.out | refine qa9 ?_ GE202.out) | exact HB.out)⟩
     ·rw [if_neg c15] at H
      have c15b0 : (t201 == 0) = false := beq_eq_false_iff_ne.mpr c15
      have c15b1 : (t201 != 0) = true := bne_iff_ne.mpr c15
      replace H := Option.bind_eq_some_iff.mp H
      obtain ⟨⟨t203, t204, t205, t206, t207, t208, t209, t210, t211⟩, A220, H⟩ := H
      replace H : (some (t203, t204, t205, t206, t207, t208, t209, t210, t211, a1)) = some (r1, r2, r3, r4, r5, r6, r7, r8, r9, r10) := H
      have A22 := qa0.mk A220
      clear A220
      simp only [Option.some.injEq, Prod.mk.injEq] at H
      obtain ⟨rfl, rfl, rfl, rfl, rfl, rfl, rfl, rfl, rfl, rfl⟩ := H
      go_enter Try.func33, Try.ntmps33
      go_wp2_with (first | ((with_reducible refine qb7 (N := 8) rfl ?_); (try (refine qcd (by rfl) ?_; dsimp only)); refine qbb ?hg (N := 8) ?hd (cs := #[.int .i64 0, .int .i64 0, .int .u64 0, .int .u64 0, .int .u64 0, .int .u64 0, .int .i64 0, .int .i64 0, .int .i64 0]) (t := 67) ?hr ?_; (case hd => rfl); (case hg => rfl); (case hr => first | (go_simp; done) | (go_simp; rfl)); intro gb185 hg w23 hbox hb; have n0_ := qa0.mk (qap (by repeat (first | (with_reducible first | exact HB.out | apply qa6 | apply qa7 | apply qa8) | exact HB.out)) hb); have n1_ := qa0.mk (hbox); have n2_ := qa0.mk ((by rw [hg]; exact (qaq (by repeat (first | (with_reducible first | exact HB.out | apply qa6 | apply qa7 | apply qa8) | exact HB.out))) : w.heap.size ≤ gb185)); have n3_ := qa0.mk ((by rw [hg]; exact (qaq (by repeat (first | (with_reducible first | exact HB.out | apply qa6 | apply qa7 | apply qa8) | exact HB.out))) : w.heap.size ≤ gb185)); clear HB; have HB := n0_; have BK185 := n1_; have GW185 := n2_; have GE185 := n3_; clear n0_ n1_ n2_ n3_; clear hb hbox hg; have p7 : 0 ≤ (a1 : Int) := of_decide_eq_true (by first | (with_reducible assumption) | assumption); have q7 : a1 < (a0.size : Int) := of_decide_eq_true (by first | (with_reducible assumption) | assumption); have hx7 := qbz a0 a1; replace p7 := eq_true p7; replace q7 := eq_true q7) | ((with_reducible refine qbc (f := 50) rfl ?_); refine qcc (some 37) rfl rfl Try.func50 (by kernel_rfl) rfl #[.string a0, .int .i64 a1] rfl (by (try simp only [List.map_toArray, List.map_cons, List.map_nil]); first | done | rfl | (simp only [List.length_drop, List.length_take]; rfl)) ?_; (with_reducible refine (qbu.calls a0 a1 t196 t197 t198 t199 t200 t201 _ ?hmd A14.out).mono ?_); (case hmd => exact (HMD.out.below (by repeat (first | (with_reducible first | exact HB.out | apply qa6 | apply qa7 | apply qa8 | refine qa9 ?_ GE185.out) | exact HB.out)))); rintro e w24 ⟨rfl, hb⟩; refine ⟨_, rfl, ?_⟩; have n0_ := qa0.mk (qae (g := gb185) (o := .cells #[.int .i64 0, .int .i64 0, .int .u64 0, .int .u64 0, .int .u64 0, .int .u64 0, .int .i64 0, .int .i64 0, .int .i64 0] 67 (0, 0)) (by (with_reducible repeat (first | refine qa4 ?_ _ | refine qa5 ?_ | refine qa3 ?_ _)); exact BK185.out) hb); have n1_ := qa0.mk (qap (by repeat (first | (with_reducible first | exact HB.out | apply qa6 | apply qa7 | apply qa8 | refine qa9 ?_ GE185.out) | exact HB.out)) hb); clear BK185; clear HB; have BK185 := n0_; have HB := n1_; clear n0_ n1_; (try clear hb); (try clear hb2); (try clear hk); (try clear hi)) | ((with_reducible refine qb7 (N := 11) rfl ?_); (try (refine qcd (by rfl) ?_; dsimp only)); refine qbb ?hg (N := 11) ?hd (cs := #[.int .u64 0, .int .u64 0, .int .u64 0, .int .u64 0]) (t := 24) ?hr ?_; (case hd => rfl); (case hg => rfl); (case hr => first | (go_simp; done) | (go_simp; rfl)); intro gb202 hg w25 hbox hb; have n0_ := qa0.mk (qae (g := gb185) (o := .cells #[.int .i64 0, .int .i64 0, .int .u64 0, .int .u64 0, .int .u64 0, .int .u64 0, .int .i64 0, .int .i64 0, .int .i64 0] 67 (0, 0)) (by (with_reducible repeat (first | refine qa4 ?_ _ | refine qa5 ?_ | refine qa3 ?_ _)); exact BK185.out) hb); have n1_ := qa0.mk (qap (by repeat (first | (with_reducible first | exact HB.out | apply qa6 | apply qa7 | apply qa8 | refine qa9 ?_ GE185.out) | exact HB.out)) hb); have n2_ := qa0.mk (hbox); have n3_ := qa0.mk ((by rw [hg]; exact (qaq (by repeat (first | (with_reducible first | exact HB.out | apply qa6 | apply qa7 | apply qa8 | refine qa9 ?_ GE185.out) | exact HB.out))) : w.heap.size ≤ gb202)); have n4_ := qa0.mk ((by rw [hg]; exact (qaq (by repeat (first | (with_reducible first | exact HB.out | apply qa6 | apply qa7 | apply qa8 | refine qa9 ?_ GE185.out) | exact HB.out))) : w.heap.size ≤ gb202)); have n5_ := qa0.mk ((by rw [hg]; exact Nat.ne_of_lt (qam (g := gb185) (o := .cells #[.int .i64 0, .int .i64 0, .int .u64 0, .int .u64 0, .int .u64 0, .int .u64 0, .int .i64 0, .int .i64 0, .int .i64 0] 67 (0, 0)) (by (with_reducible repeat (first | refine qa4 ?_ _ | refine qa5 ?_ | refine qa3 ?_ _)); exact BK185.out)) : gb185 ≠ gb202)); have n6_ := qa0.mk ((by rw [hg]; exact Nat.ne_of_gt (qam (g := gb185) (o := .cells #[.int .i64 0, .int .i64 0, .int .u64 0, .int .u64 0, .int .u64 0, .int .u64 0, .int .i64 0, .int .i64 0, .int .i64 0] 67 (0, 0)) (by (with_reducible repeat (first | refine qa4 ?_ _ | refine qa5 ?_ | refine qa3 ?_ _)); exact BK185.out)) : gb202 ≠ gb185)); clear BK185; clear HB; have BK185 := n0_; have HB := n1_; have BK202 := n2_; have GW202 := n3_; have GE202 := n4_; have NB185_202 := n5_; have NB202_185 := n6_; clear n0_ n1_ n2_ n3_ n4_ n5_ n6_; clear hb hbox hg; have hnb26 := NB202_185.out; have hnc26 := NB185_202.out; have hcz27_0 : w25.cell? ⟨gb202, 0, none⟩ = some (.int .u64 0) := (qa2 BK202.out 0).trans rfl; have hcz27_1 : w25.cell? ⟨gb202, 1, none⟩ = some (.int .u64 0) := (qa2 BK202.out 1).trans rfl; have hcz27_2 : w25.cell? ⟨gb202, 2, none⟩ = some (.int .u64 0) := (qa2 BK202.out 2).trans rfl; have hcz27_3 : w25.cell? ⟨gb202, 3, none⟩ = some (.int .u64 0) := (qa2 BK202.out 3).trans rfl; have hfz27_0 := qa1 BK202.out 0; have hfz27_1 := qa1 BK202.out 1; have hfz27_2 := qa1 BK202.out 2; have hfz27_3 := qa1 BK202.out 3) | ((with_reducible refine qbc (f := 51) rfl ?_); refine qcc (some 45) rfl rfl Try.func51 (by kernel_rfl) rfl #[.int .i64 a1, .int .i64 t201] rfl (by (try simp only [List.map_toArray, List.map_cons, List.map_nil]); first | done | rfl | (simp only [List.length_drop, List.length_take]; rfl)) ?_; (with_reducible refine (qbx.calls a1 t201 t203 t204 t205 t206 t207 t208 t209 t210 t211 _ A22.out).mono ?_); rintro e w28 ⟨rfl, hb⟩; refine ⟨_, rfl, ?_⟩; have n0_ := qa0.mk (qae (g := gb185) (o := .cells #[.int .i64 0, .int .i64 0, .int .u64 0, .int .u64 0, .int .u64 0, .int .u64 0, .int .i64 0, .int .i64 0, .int .i64 0] 67 (0, 0)) (by (with_reducible repeat (first | refine qa4 ?_ _ | refine qa5 ?_ | refine qa3 ?_ _)); refine qaj ?_ NB185_202.out _; (with_reducible repeat (first | refine qa4 ?_ _ | refine qa5 ?_ | refine qa3 ?_ _)); refine qaj ?_ NB185_202.out _; (with_reducible repeat (first | refine qa4 ?_ _ | refine qa5 ?_ | refine qa3 ?_ _)); refine qaj ?_ NB185_202.out _; (with_reducible repeat (first | refine qa4 ?_ _ | refine qa5 ?_ | refine qa3 ?_ _)); refine qaj ?_ NB185_202.out _; (with_reducible repeat (first | refine qa4 ?_ _ | refine qa5 ?_ | refine qa3 ?_ _)); exact BK185.out) hb); have n1_ := qa0.mk (qae (g := gb202) (o := .cells #[.int .u64 t196, .int .u64 t197, .int .u64 t198, .int .u64 t199] 24 (0, 0)) (by (with_reducible repeat (first | refine qa4 ?_ _ | refine qa5 ?_ | refine qa3 ?_ _)); refine qaa (cs := #[.int .u64 t196, .int .u64 t197, .int .u64 t198, .int .u64 0]) ?_ 3 _ rfl; (with_reducible repeat (first | refine qa4 ?_ _ | refine qa5 ?_ | refine qa3 ?_ _)); refine qaa (cs := #[.int .u64 t196, .int .u64 t197, .int .u64 0, .int .u64 0]) ?_ 2 _ rfl; (with_reducible repeat (first | refine qa4 ?_ _ | refine qa5 ?_ | refine qa3 ?_ _)); refine qaa (cs := #[.int .u64 t196, .int .u64 0, .int .u64 0, .int .u64 0]) ?_ 1 _ rfl; (with_reducible repeat (first | refine qa4 ?_ _ | refine qa5 ?_ | refine qa3 ?_ _)); refine qaa (cs := #[.int .u64 0, .int .u64 0, .int .u64 0, .int .u64 0]) ?_ 0 _ rfl; (with_reducible repeat (first | refine qa4 ?_ _ | refine qa5 ?_ | refine qa3 ?_ _)); exact BK202.out) hb); have n2_ := qa0.mk (qap (by repeat (first | (with_reducible first | exact HB.out | apply qa6 | apply qa7 | apply qa8 | refine qa9 ?_ GE185.out | refine qa9 ?_ GE202.out) | exact HB.out)) hb); clear BK185; clear BK202; clear HB; have BK185 := n0_; have BK202 := n1_; have HB := n2_; clear n0_ n1_ n2_; (try clear hb); (try clear hb2); (try clear hk); (try clear hi); have hcz29_0 : w28.cell? ⟨gb185, 0, none⟩ = some (.int .i64 0) := (qa2 BK185.out 0).trans rfl; have hcz29_1 : w28.cell? ⟨gb185, 1, none⟩ = some (.int .i64 0) := (qa2 BK185.out 1).trans rfl; have hcz29_2 : w28.cell? ⟨gb185, 2, none⟩ = some (.int .u64 0) := (qa2 BK185.out 2).trans rfl; have hcz29_3 : w28.cell? ⟨gb185, 3, none⟩ = some (.int .u64 0) := (qa2 BK185.out 3).trans rfl; have hcz29_4 : w28.cell? ⟨gb185, 4, none⟩ = some (.int .u64 0) := (qa2 BK185.out 4).trans rfl; have hcz29_5 : w28.cell? ⟨gb185, 5, none⟩ = some (.int .u64 0) := (qa2 BK185.out 5).trans rfl; have hcz29_6 : w28.cell? ⟨gb185, 6, none⟩ = some (.int .i64 0) := (qa2 BK185.out 6).trans rfl; have hcz29_7 : w28.cell? ⟨gb185, 7, none⟩ = some (.int .i64 0) := (qa2 BK185.out 7).trans rfl; have hcz29_8 : w28.cell? ⟨gb185, 8, none⟩ = some (.int .i64 0) := (qa2 BK185.out 8).trans rfl; have hfz29_0 := qa1 BK185.out 0; have hfz29_1 := qa1 BK185.out 1; have hfz29_2 := qa1 BK185.out 2; have hfz29_3 := qa1 BK185.out 3; have hfz29_4 := qa1 BK185.out 4; have hfz29_5 := qa1 BK185.out 5; have hfz29_6 := qa1 BK185.out 6; have hfz29_7 := qa1 BK185.out 7; have hfz29_8 := qa1 BK185.out 8))
      refine bodyPost_ret (qbv rfl _ _ gb185 67 #[.int .i64 t203, .int .i64 t204, .int .u64 t205, .int .u64 t206, .int .u64 t207, .int .u64 t208, .int .i64 t209, .int .i64 t210, .int .i64 t211] (0, 0) _ rfl (by (with_reducible repeat (first | refine qa4 ?_ _ | refine qa5 ?_ | refine qa3 ?_ _)); refine qaa (cs := #[.int .i64 t203, .int .i64 t204, .int .u64 t205, .int .u64 t206, .int .u64 t207, .int .u64 t208, .int .i64 t209, .int .i64 t210, .int .i64 0]) ?_ 8 _ rfl; (with_reducible repeat (first | refine qa4 ?_ _ | refine qa5 ?_ | refine qa3 ?_ _)); refine qaa (cs := #[.int .i64 t203, .int .i64 t204, .int .u64 t205, .int .u64 t206, .int .u64 t207, .int .u64 t208, .int .i64 t209, .int .i64 0, .int .i64 0]) ?_ 7 _ rfl; (with_reducible repeat (first | refine qa4 ?_ _ | refine qa5 ?_ | refine qa3 ?_ _)); refine qaa (cs := #[.int .i64 t203, .int .i64 t204, .int .u64 t205, .int .u64 t206, .int .u64 t207, .int .u64 t208, .int .i64 0, .int .i64 0, .int .i64 0]) ?_ 6 _ rfl; (with_reducible repeat (first | refine qa4 ?_ _ | refine qa5 ?_ | refine qa3 ?_ _)); refine qaa (cs := #[.int .i64 t203, .int .i64 t204, .int .u64 t205, .int .u64 t206, .int .u64 t207, .int .u64 0, .int .i64 0, .int .i64 0, .int .i64 0]) ?_ 5 _ rfl; (with_reducible repeat (first | refine qa4 ?_ _ | refine qa5 ?_ | refine qa3 ?_ _)); refine qaa (cs := #[.int .i64 t203, .int .i64 t204, .int .u64 t205, .int .u64 t206, .int .u64 0, .int .u64 0, .int .i64 0, .int .i64 0, .int .i64 0]) ?_ 4 _ rfl; (with_reducible repeat (first | refine qa4 ?_ _ | refine qa5 ?_ | refine qa3 ?_ _)); refine qaa (cs := #[.int .i64 t203, .int .i64 t204, .int .u64 t205, .int .u64 0, .int .u64 0, .int .u64 0, .int .i64 0, .int .i64 0, .int .i64 0]) ?_ 3 _ rfl; (with_reducible repeat (first | refine qa4 ?_ _ | refine qa5 ?_ | refine qa3 ?_ _)); refine qaa (cs := #[.int .i64 t203, .int .i64 t204, .int .u64 0, .int .u64 0, .int .u64 0, .int .u64 0, .int .i64 0, .int .i64 0, .int .i64 0]) ?_ 2 _ rfl; (with_reducible repeat (first | refine qa4 ?_ _ | refine qa5 ?_ | refine qa3 ?_ _)); refine qaa (cs := #[.int .i64 t203, .int .i64 0, .int .u64 0, .int .u64 0, .int .u64 0, .int .u64 0, .int .i64 0, .int .i64 0, .int .i64 0]) ?_ 1 _ rfl; (with_reducible repeat (first | refine qa4 ?_ _ | refine qa5 ?_ | refine qa3 ?_ _)); refine qaa (cs := #[.int .i64 0, .int .i64 0, .int .u64 0, .int .u64 0, .int .u64 0, .int .u64 0, .int .i64 0, .int .i64 0, .int .i64 0]) ?_ 0 _ rfl; (with_reducible repeat (first | refine qa4 ?_ _ | refine qa5 ?_ | refine qa3 ?_ _)); exact BK185.out) Try.underlying67 rfl (by kernel_rfl)) rfl ?_
      exact ⟨by first | rfl | (simp only [wrap_wrap]; done) | (simp only [wrap_wrap]; rfl) | (simp [qah, qai] <;> rfl) | (simp [*, qah, qai] <;> rfl), by repeat (first | (with_reducible first | exact HB.out | apply qa6 | apply qa7 | apply qa8 | refine qa9 ?_ GE185.out | refine qa9 ?_ GE202.out) | exact HB.out)⟩
    ·rw [if_neg c13] at H
     have c13b0 : ((bt a0 a1) == 91) = false := beq_eq_false_iff_ne.mpr c13
     have c13b1 : ((bt a0 a1) != 91) = true := bne_iff_ne.mpr c13
     by_cases c30 : (bt a0 a1) = 46
     ·rw [if_pos c30] at H
      have c30b0 : ((bt a0 a1) == 46) = true := beq_iff_eq.mpr c30
      have c30b1 : ((bt a0 a1) != 46) = false := bne_eq_false_iff_eq.mpr c30
      clear c30
      replace H := Option.bind_eq_some_iff.mp H
      obtain ⟨⟨t212, t213, t214, t215⟩, A310, H⟩ := H
      replace H : (some (0, a1, t212, t213, t214, t215, 0, 0, 0, wrap64 (a1 + 1))) = some (r1, r2, r3, r4, r5, r6, r7, r8, r9, r10) := H
      have A31 := qa0.mk A310
      clear A310
      simp only [Option.some.injEq, Prod.mk.injEq] at H
      obtain ⟨rfl, rfl, rfl, rfl, rfl, rfl, rfl, rfl, rfl, rfl⟩ := H
      go_enter Try.func33, Try.ntmps33
      go_wp2_with (first | ((with_reducible refine qb7 (N := 8) rfl ?_); (try (refine qcd (by rfl) ?_; dsimp only)); refine qbb ?hg (N := 8) ?hd (cs := #[.int .i64 0, .int .i64 0, .int .u64 0, .int .u64 0, .int .u64 0, .int .u64 0, .int .i64 0, .int .i64 0, .int .i64 0]) (t := 67) ?hr ?_; (case hd => rfl); (case hg => rfl); (case hr => first | (go_simp; done) | (go_simp; rfl)); intro gb185 hg w32 hbox hb; have n0_ := qa0.mk (qap (by repeat (first | (with_reducible first | exact HB.out | apply qa6 | apply qa7 | apply qa8) | exact HB.out)) hb); have n1_ := qa0.mk (hbox); have n2_ := qa0.mk ((by rw [hg]; exact (qaq (by repeat (first | (with_reducible first | exact HB.out | apply qa6 | apply qa7 | apply qa8) | exact HB.out))) : w.heap.size ≤ gb185)); have n3_ := qa0.mk ((by rw [hg]; exact (qaq (by repeat (first | (with_reducible first | exact HB.out | apply qa6 | apply qa7 | apply qa8) | exact HB.out))) : w.heap.size ≤ gb185)); clear HB; have HB := n0_; have BK185 := n1_; have GW185 := n2_; have GE185 := n3_; clear n0_ n1_ n2_ n3_; clear hb hbox hg; have p7 : 0 ≤ (a1 : Int) := of_decide_eq_true (by first | (with_reducible assumption) | assumption); have q7 : a1 < (a0.size : Int) := of_decide_eq_true (by first | (with_reducible assumption) | assumption); have hx7 := qbz a0 a1; replace p7 := eq_true p7; replace q7 := eq_true q7) | ((with_reducible refine qbc (f := 52) rfl ?_); refine qcc (some 56) rfl rfl Try.func52 (by kernel_rfl) rfl #[.agg #[.int .u64 0, .int .u64 0, .int .u64 0, .int .u64 0]] rfl (by (try simp only [List.map_toArray, List.map_cons, List.map_nil]); first | done | rfl | (simp only [List.length_drop, List.length_take]; rfl)) ?_; (with_reducible refine (qeb.calls 0 0 0 0 t212 t213 t214 t215 _ A31.out).mono ?_); rintro e w33 ⟨rfl, hb⟩; refine ⟨_, rfl, ?_⟩; have n0_ := qa0.mk (qae (g := gb185) (o := .cells #[.int .i64 0, .int .i64 0, .int .u64 0, .int .u64 0, .int .u64 0, .int .u64 0, .int .i64 0, .int .i64 0, .int .i64 0] 67 (0, 0)) (by (with_reducible repeat (first | refine qa4 ?_ _ | refine qa5 ?_ | refine qa3 ?_ _)); exact BK185.out) hb); have n1_ := qa0.mk (qap (by repeat (first | (with_reducible first | exact HB.out | apply qa6 | apply qa7 | apply qa8 | refine qa9 ?_ GE185.out) | exact HB.out)) hb); clear BK185; clear HB; have BK185 := n0_; have HB := n1_; clear n0_ n1_; (try clear hb); (try clear hb2); (try clear hk); (try clear hi); have hcz34_0 : w33.cell? ⟨gb185, 0, none⟩ = some (.int .i64 0) := (qa2 BK185.out 0).trans rfl; have hcz34_1 : w33.cell? ⟨gb185, 1, none⟩ = some (.int .i64 0) := (qa2 BK185.out 1).trans rfl; have hcz34_2 : w33.cell? ⟨gb185, 2, none⟩ = some (.int .u64 0) := (qa2 BK185.out 2).trans rfl; have hcz34_3 : w33.cell? ⟨gb185, 3, none⟩ = some (.int .u64 0) := (qa2 BK185.out 3).trans rfl; have hcz34_4 : w33.cell? ⟨gb185, 4, none⟩ = some (.int .u64 0) := (qa2 BK185.out 4).trans rfl; have hcz34_5 : w33.cell? ⟨gb185, 5, none⟩ = some (.int .u64 0) := (qa2 BK185.out 5).trans rfl; have hcz34_6 : w33.cell? ⟨gb185, 6, none⟩ = some (.int .i64 0) := (qa2 BK185.out 6).trans rfl; have hcz34_7 : w33.cell? ⟨gb185, 7, none⟩ = some (.int .i64 0) := (qa2 BK185.out 7).trans rfl; have hcz34_8 : w33.cell? ⟨gb185, 8, none⟩ = some (.int .i64 0) := (qa2 BK185.out 8).trans rfl; have hfz34_0 := qa1 BK185.out 0; have hfz34_1 := qa1 BK185.out 1; have hfz34_2 := qa1 BK185.out 2; have hfz34_3 := qa1 BK185.out 3; have hfz34_4 := qa1 BK185.out 4; have hfz34_5 := qa1 BK185.out 5; have hfz34_6 := qa1 BK185.out 6; have hfz34_7 := qa1 BK185.out 7; have hfz34_8 := qa1 BK185.out 8))
      refine bodyPost_ret (qbv rfl _ _ gb185 67 #[.int .i64 0, .int .i64 a1, .int .u64 t212, .int .u64 t213, .int .u64 t214, .int .u64 t215, .int .i64 0, .int .i64 0, .int .i64 0] (0, 0) _ rfl (by (with_reducible repeat (first | refine qa4 ?_ _ | refine qa5 ?_ | refine qa3 ?_ _)); refine qaa (cs := #[.int .i64 0, .int .i64 a1, .int .u64 t212, .int .u64 t213, .int .u64 t214, .int .u64 t215, .int .i64 0, .int .i64 0, .int .i64 0]) ?_ 8 _ rfl; (with_reducible repeat (first | refine qa4 ?_ _ | refine qa5 ?_ | refine qa3 ?_ _)); refine qaa (cs := #[.int .i64 0, .int .i64 a1, .int .u64 t212, .int .u64 t213, .int .u64 t214, .int .u64 t215, .int .i64 0, .int .i64 0, .int .i64 0]) ?_ 7 _ rfl; (with_reducible repeat (first | refine qa4 ?_ _ | refine qa5 ?_ | refine qa3 ?_ _)); refine qaa (cs := #[.int .i64 0, .int .i64 a1, .int .u64 t212, .int .u64 t213, .int .u64 t214, .int .u64 t215, .int .i64 0, .int .i64 0, .int .i64 0]) ?_ 6 _ rfl; (with_reducible repeat (first | refine qa4 ?_ _ | refine qa5 ?_ | refine qa3 ?_ _)); refine qaa (cs := #[.int .i64 0, .int .i64 a1, .int .u64 t212, .int .u64 t213, .int .u64 t214, .int .u64 0, .int .i64 0, .int .i64 0, .int .i64 0]) ?_ 5 _ rfl; (with_reducible repeat (first | refine qa4 ?_ _ | refine qa5 ?_ | refine qa3 ?_ _)); refine qaa (cs := #[.int .i64 0, .int .i64 a1, .int .u64 t212, .int .u64 t213, .int .u64 0, .int .u64 0, .int .i64 0, .int .i64 0, .int .i64 0]) ?_ 4 _ rfl; (with_reducible repeat (first | refine qa4 ?_ _ | refine qa5 ?_ | refine qa3 ?_ _)); refine qaa (cs := #[.int .i64 0, .int .i64 a1, .int .u64 t212, .int .u64 0, .int .u64 0, .int .u64 0, .int .i64 0, .int .i64 0, .int .i64 0]) ?_ 3 _ rfl; (with_reducible repeat (first | refine qa4 ?_ _ | refine qa5 ?_ | refine qa3 ?_ _)); refine qaa (cs := #[.int .i64 0, .int .i64 a1, .int .u64 0, .int .u64 0, .int .u64 0, .int .u64 0, .int .i64 0, .int .i64 0, .int .i64 0]) ?_ 2 _ rfl; (with_reducible repeat (first | refine qa4 ?_ _ | refine qa5 ?_ | refine qa3 ?_ _)); refine qaa (cs := #[.int .i64 0, .int .i64 0, .int .u64 0, .int .u64 0, .int .u64 0, .int .u64 0, .int .i64 0, .int .i64 0, .int .i64 0]) ?_ 1 _ rfl; (with_reducible repeat (first | refine qa4 ?_ _ | refine qa5 ?_ | refine qa3 ?_ _)); refine qaa (cs := #[.int .i64 0, .int .i64 0, .int .u64 0, .int .u64 0, .int .u64 0, .int .u64 0, .int .i64 0, .int .i64 0, .int .i64 0]) ?_ 0 _ rfl; (with_reducible repeat (first | refine qa4 ?_ _ | refine qa5 ?_ | refine qa3 ?_ _)); exact BK185.out) Try.underlying67 rfl (by kernel_rfl)) rfl ?_
      exact ⟨by first | rfl | (simp only [wrap_wrap]; done) | (simp only [wrap_wrap]; rfl) | (simp [qah, qai] <;> rfl) | (simp [*, qah, qai] <;> rfl), by repeat (first | (with_reducible first | exact HB.out | apply qa6 | apply qa7 | apply qa8 | refine qa9 ?_ GE185.out) | exact HB.out)⟩
     ·rw [if_neg c30] at H
      have c30b0 : ((bt a0 a1) == 46) = false := beq_eq_false_iff_ne.mpr c30
      have c30b1 : ((bt a0 a1) != 46) = true := bne_iff_ne.mpr c30
      have HC35 := qa0.mk H
      clear H
      go_enter Try.func33, Try.ntmps33
      go_upto_region 12 with (first | ((with_reducible refine qb7 (N := 8) rfl ?_); (try (refine qcd (by rfl) ?_; dsimp only)); refine qbb ?hg (N := 8) ?hd (cs := #[.int .i64 0, .int .i64 0, .int .u64 0, .int .u64 0, .int .u64 0, .int .u64 0, .int .i64 0, .int .i64 0, .int .i64 0]) (t := 67) ?hr ?_; (case hd => rfl); (case hg => rfl); (case hr => first | (go_simp; done) | (go_simp; rfl)); intro gb185 hg w36 hbox hb; have n0_ := qa0.mk (qap (by repeat (first | (with_reducible first | exact HB.out | apply qa6 | apply qa7 | apply qa8) | exact HB.out)) hb); have n1_ := qa0.mk (hbox); have n2_ := qa0.mk ((by rw [hg]; exact (qaq (by repeat (first | (with_reducible first | exact HB.out | apply qa6 | apply qa7 | apply qa8) | exact HB.out))) : w.heap.size ≤ gb185)); have n3_ := qa0.mk ((by rw [hg]; exact (qaq (by repeat (first | (with_reducible first | exact HB.out | apply qa6 | apply qa7 | apply qa8) | exact HB.out))) : w.heap.size ≤ gb185)); clear HB; have HB := n0_; have BK185 := n1_; have GW185 := n2_; have GE185 := n3_; clear n0_ n1_ n2_ n3_; clear hb hbox hg; have p7 : 0 ≤ (a1 : Int) := of_decide_eq_true (by first | (with_reducible assumption) | assumption); have q7 : a1 < (a0.size : Int) := of_decide_eq_true (by first | (with_reducible assumption) | assumption); have hx7 := qbz a0 a1; replace p7 := eq_true p7; replace q7 := eq_true q7))
      (try simp only [Act.put, List.setIfInBounds_toArray, List.set_cons_zero, List.set_cons_succ])
      go_cut [60] (fun v60 wc => ∃ (kq : Nat) (x60_34 : Bool), v60 = .bool x60_34 ∧ qa0 (qb9.j0 kq a0 a1 a2 (bt a0 a1) x60_34 = some (r1, r2, r3, r4, r5, r6, r7, r8, r9, r10)) ∧ qa0 (kq ≤ k) ∧ qa0 (wc.heap[gb185]? = some (.cells #[.int .i64 0, .int .i64 0, .int .u64 0, .int .u64 0, .int .u64 0, .int .u64 0, .int .i64 0, .int .i64 0, .int .i64 0] 67 (0, 0))) ∧ qa0 (Below w.heap.size w wc))
      case first =>
       have H := HC35.out
       clear HC35
       by_cases c37 : (bt a0 a1) = 42
       ·rw [if_pos c37] at H
        have c37b0 : ((bt a0 a1) == 42) = true := beq_iff_eq.mpr c37
        have c37b1 : ((bt a0 a1) != 42) = false := bne_eq_false_iff_eq.mpr c37
        clear c37
        (first | rw [c37b0] | (simp only [qbk, qcl]; rw [c37b0]) | skip)
        have H' := qa0.mk H
        clear H
        go_wp2
        go_meet
        case rel => exact ⟨_, (!a3), (by first | rfl | (simp; done) | (simp [*]; done) | (exfalso; simp only [decide_eq_true_eq] at *; omega)), H', ⟨by first | omega | exact Nat.le_refl _⟩, ⟨by (with_reducible repeat (first | refine qa4 ?_ _ | refine qa5 ?_ | refine qa3 ?_ _)); exact BK185.out⟩, ⟨by repeat (first | (with_reducible first | exact HB.out | apply qa6 | apply qa7 | apply qa8 | refine qa9 ?_ GE185.out) | exact HB.out)⟩⟩
       ·rw [if_neg c37] at H
        have c37b0 : ((bt a0 a1) == 42) = false := beq_eq_false_iff_ne.mpr c37
        have c37b1 : ((bt a0 a1) != 42) = true := bne_iff_ne.mpr c37
        (first | rw [c37b0] | (simp only [qbk, qcl]; rw [c37b0]) | skip)
        have H' := qa0.mk H
        clear H
        go_wp2
        go_meet
        case rel => exact ⟨_, (false), (by first | rfl | (simp; done) | (simp [*]; done) | (exfalso; simp only [decide_eq_true_eq] at *; omega)), H', ⟨by first | omega | exact Nat.le_refl _⟩, ⟨by (with_reducible repeat (first | refine qa4 ?_ _ | refine qa5 ?_ | refine qa3 ?_ _)); exact BK185.out⟩, ⟨by repeat (first | (with_reducible first | exact HB.out | apply qa6 | apply qa7 | apply qa8 | refine qa9 ?_ GE185.out) | exact HB.out)⟩⟩
      case rest =>
       clear HC35
       try clear c1
       try clear c2
       try clear p2
       try clear c3
       try clear c4
       try clear c5
       try clear c5b0
       try clear c6
       try clear c6b0
       try clear p6
       try clear p7
       try clear q7
       try clear hx7
       try clear c8
       try clear c8b0
       try clear c8b1
       try clear c13
       try clear c13b0
       try clear c13b1
       try clear c15
       try clear c15b0
       try clear c15b1
       try clear c19
       try clear c26
       try clear c30
       try clear c30b0
       try clear c30b1
       try clear c33
       try clear c37
       try clear c37b0
       try clear c37b1
       try clear hcz12_0
       try clear hcz12_1
       try clear hcz12_2
       try clear hcz12_3
       try clear hcz12_4
       try clear hcz12_5
       try clear hcz12_6
       try clear hcz12_7
       try clear hcz12_8
       try clear hcz20_0
       try clear hcz20_1
       try clear hcz20_2
       try clear hcz20_3
       try clear hcz21_0
       try clear hcz21_1
       try clear hcz21_2
       try clear hcz21_3
       try clear hcz21_4
       try clear hcz21_5
       try clear hcz21_6
       try clear hcz21_7
       try clear hcz21_8
       try clear hcz27_0
       try clear hcz27_1
       try clear hcz27_2
       try clear hcz27_3
       try clear hcz29_0
       try clear hcz29_1
       try clear hcz29_2
       try clear hcz29_3
       try clear hcz29_4
       try clear hcz29_5
       try clear hcz29_6
       try clear hcz29_7
       try clear hcz29_8
       try clear hcz34_0
       try clear hcz34_1
       try clear hcz34_2
       try clear hcz34_3
       try clear hcz34_4
       try clear hcz34_5
       try clear hcz34_6
       try clear hcz34_7
       try clear hcz34_8
       try clear hfz12_0
       try clear hfz12_1
       try clear hfz12_2
       try clear hfz12_3
       try clear hfz12_4
       try clear hfz12_5
       try clear hfz12_6
       try clear hfz12_7
       try clear hfz12_8
       try clear hfz20_0
       try clear hfz20_1
       try clear hfz20_2
       try clear hfz20_3
       try clear hfz21_0
       try clear hfz21_1
       try clear hfz21_2
       try clear hfz21_3
       try clear hfz21_4
       try clear hfz21_5
       try clear hfz21_6
       try clear hfz21_7
       try clear hfz21_8
       try clear hfz27_0
       try clear hfz27_1
       try clear hfz27_2
       try clear hfz27_3
       try clear hfz29_0
       try clear hfz29_1
       try clear hfz29_2
       try clear hfz29_3
       try clear hfz29_4
       try clear hfz29_5
       try clear hfz29_6
       try clear hfz29_7
       try clear hfz29_8
       try clear hfz34_0
       try clear hfz34_1
       try clear hfz34_2
       try clear hfz34_3
       try clear hfz34_4
       try clear hfz34_5
       try clear hfz34_6
       try clear hfz34_7
       try clear hfz34_8
       try clear p7
       try clear q7
       obtain ⟨kq, x60_34, rfl, HA, HJ34, BK185, HB⟩ := hcut
       cases kq with
       | zero => exact absurd HA.out (by simp [qb9.j0])
       | succ kj34 =>
        have H := HA.out
        clear HA
        simp only [qb9.j0] at H
        by_cases c38 : x60_34 = true
        ·subst c38
         have H1 : (some (5, a1, 0, 0, 0, 0, 0, (-1), 0, wrap64 (a1 + 1))) = some (r1, r2, r3, r4, r5, r6, r7, r8, r9, r10) := by rw [if_pos rfl] at H; exact H
         clear H
         have H := H1
         clear H1
         simp only [Option.some.injEq, Prod.mk.injEq] at H
         obtain ⟨rfl, rfl, rfl, rfl, rfl, rfl, rfl, rfl, rfl, rfl⟩ := H
         have hcz39_0 : wc.cell? ⟨gb185, 0, none⟩ = some (.int .i64 0) := (qa2 BK185.out 0).trans rfl
         have hcz39_1 : wc.cell? ⟨gb185, 1, none⟩ = some (.int .i64 0) := (qa2 BK185.out 1).trans rfl
         have hcz39_2 : wc.cell? ⟨gb185, 2, none⟩ = some (.int .u64 0) := (qa2 BK185.out 2).trans rfl
         have hcz39_3 : wc.cell? ⟨gb185, 3, none⟩ = some (.int .u64 0) := (qa2 BK185.out 3).trans rfl
         have hcz39_4 : wc.cell? ⟨gb185, 4, none⟩ = some (.int .u64 0) := (qa2 BK185.out 4).trans rfl
         have hcz39_5 : wc.cell? ⟨gb185, 5, none⟩ = some (.int .u64 0) := (qa2 BK185.out 5).trans rfl
         have hcz39_6 : wc.cell? ⟨gb185, 6, none⟩ = some (.int .i64 0) := (qa2 BK185.out 6).trans rfl
         have hcz39_7 : wc.cell? ⟨gb185, 7, none⟩ = some (.int .i64 0) := (qa2 BK185.out 7).trans rfl
         have hcz39_8 : wc.cell? ⟨gb185, 8, none⟩ = some (.int .i64 0) := (qa2 BK185.out 8).trans rfl
         have hfz39_0 := qa1 BK185.out 0
         have hfz39_1 := qa1 BK185.out 1
         have hfz39_2 := qa1 BK185.out 2
         have hfz39_3 := qa1 BK185.out 3
         have hfz39_4 := qa1 BK185.out 4
         have hfz39_5 := qa1 BK185.out 5
         have hfz39_6 := qa1 BK185.out 6
         have hfz39_7 := qa1 BK185.out 7
         have hfz39_8 := qa1 BK185.out 8
         go_wp2
         refine bodyPost_ret (qbv rfl _ _ gb185 67 #[.int .i64 5, .int .i64 a1, .int .u64 0, .int .u64 0, .int .u64 0, .int .u64 0, .int .i64 0, .int .i64 (-1), .int .i64 0] (0, 0) _ rfl (by (with_reducible repeat (first | refine qa4 ?_ _ | refine qa5 ?_ | refine qa3 ?_ _)); refine qaa (cs := #[.int .i64 5, .int .i64 a1, .int .u64 0, .int .u64 0, .int .u64 0, .int .u64 0, .int .i64 0, .int .i64 (-1), .int .i64 0]) ?_ 8 _ rfl; (with_reducible repeat (first | refine qa4 ?_ _ | refine qa5 ?_ | refine qa3 ?_ _)); refine qaa (cs := #[.int .i64 5, .int .i64 a1, .int .u64 0, .int .u64 0, .int .u64 0, .int .u64 0, .int .i64 0, .int .i64 0, .int .i64 0]) ?_ 7 _ rfl; (with_reducible repeat (first | refine qa4 ?_ _ | refine qa5 ?_ | refine qa3 ?_ _)); refine qaa (cs := #[.int .i64 5, .int .i64 a1, .int .u64 0, .int .u64 0, .int .u64 0, .int .u64 0, .int .i64 0, .int .i64 0, .int .i64 0]) ?_ 6 _ rfl; (with_reducible repeat (first | refine qa4 ?_ _ | refine qa5 ?_ | refine qa3 ?_ _)); refine qaa (cs := #[.int .i64 5, .int .i64 a1, .int .u64 0, .int .u64 0, .int .u64 0, .int .u64 0, .int .i64 0, .int .i64 0, .int .i64 0]) ?_ 5 _ rfl; (with_reducible repeat (first | refine qa4 ?_ _ | refine qa5 ?_ | refine qa3 ?_ _)); refine qaa (cs := #[.int .i64 5, .int .i64 a1, .int .u64 0, .int .u64 0, .int .u64 0, .int .u64 0, .int .i64 0, .int .i64 0, .int .i64 0]) ?_ 4 _ rfl; (with_reducible repeat (first | refine qa4 ?_ _ | refine qa5 ?_ | refine qa3 ?_ _)); refine qaa (cs := #[.int .i64 5, .int .i64 a1, .int .u64 0, .int .u64 0, .int .u64 0, .int .u64 0, .int .i64 0, .int .i64 0, .int .i64 0]) ?_ 3 _ rfl; (with_reducible repeat (first | refine qa4 ?_ _ | refine qa5 ?_ | refine qa3 ?_ _)); refine qaa (cs := #[.int .i64 5, .int .i64 a1, .int .u64 0, .int .u64 0, .int .u64 0, .int .u64 0, .int .i64 0, .int .i64 0, .int .i64 0]) ?_ 2 _ rfl; (with_reducible repeat (first | refine qa4 ?_ _ | refine qa5 ?_ | refine qa3 ?_ _)); refine qaa (cs := #[.int .i64 5, .int .i64 0, .int .u64 0, .int .u64 0, .int .u64 0, .int .u64 0, .int .i64 0, .int .i64 0, .int .i64 0]) ?_ 1 _ rfl; (with_reducible repeat (first | refine qa4 ?_ _ | refine qa5 ?_ | refine qa3 ?_ _)); refine qaa (cs := #[.int .i64 0, .int .i64 0, .int .u64 0, .int .u64 0, .int .u64 0, .int .u64 0, .int .i64 0, .int .i64 0, .int .i64 0]) ?_ 0 _ rfl; (with_reducible repeat (first | refine qa4 ?_ _ | refine qa5 ?_ | refine qa3 ?_ _)); exact BK185.out) Try.underlying67 rfl (by kernel_rfl)) rfl ?_
         exact ⟨by first | rfl | (simp only [wrap_wrap]; done) | (simp only [wrap_wrap]; rfl) | (simp [qah, qai] <;> rfl) | (simp [*, qah, qai] <;> rfl), by repeat (first | (with_reducible first | exact HB.out | apply qa6 | apply qa7 | apply qa8 | refine qa9 ?_ GE185.out) | exact HB.out)⟩
        ·replace c38 := Bool.eq_false_iff.mpr c38
         subst c38
         have H1 : (if (bt a0 a1) = 94 then (qb9.j1 kj34 a0 a1 (bt a0 a1) a2) else (qb9.j1 kj34 a0 a1 (bt a0 a1) false)) = some (r1, r2, r3, r4, r5, r6, r7, r8, r9, r10) := by rw [if_neg (show ¬ (false = true) by decide)] at H; exact H
         clear H
         have H := H1
         clear H1
         have HC40 := qa0.mk H
         clear H
         go_upto_region 14 with (fail)
         go_cut [71] (fun v71 wc => ∃ (kq : Nat) (x71_39 : Bool), v71 = .bool x71_39 ∧ qa0 (qb9.j1 kq a0 a1 (bt a0 a1) x71_39 = some (r1, r2, r3, r4, r5, r6, r7, r8, r9, r10)) ∧ qa0 (kq ≤ kj34) ∧ qa0 (wc.heap[gb185]? = some (.cells #[.int .i64 0, .int .i64 0, .int .u64 0, .int .u64 0, .int .u64 0, .int .u64 0, .int .i64 0, .int .i64 0, .int .i64 0] 67 (0, 0))) ∧ qa0 (Below w.heap.size w wc))
         case first =>
          have H := HC40.out
          clear HC40
          by_cases c41 : (bt a0 a1) = 94
          ·rw [if_pos c41] at H
           have c41b0 : ((bt a0 a1) == 94) = true := beq_iff_eq.mpr c41
           have c41b1 : ((bt a0 a1) != 94) = false := bne_eq_false_iff_eq.mpr c41
           clear c41
           (first | rw [c41b0] | (simp only [qbk, qcl]; rw [c41b0]) | skip)
           have H' := qa0.mk H
           clear H
           go_wp2
           go_meet
           case rel => exact ⟨_, (a2), (by first | rfl | (simp; done) | (simp [*]; done) | (exfalso; simp only [decide_eq_true_eq] at *; omega)), H', ⟨by have := HJ34.out; first | omega | exact Nat.le_refl _⟩, ⟨by (with_reducible repeat (first | refine qa4 ?_ _ | refine qa5 ?_ | refine qa3 ?_ _)); exact BK185.out⟩, ⟨by repeat (first | (with_reducible first | exact HB.out | apply qa6 | apply qa7 | apply qa8 | refine qa9 ?_ GE185.out) | exact HB.out)⟩⟩
          ·rw [if_neg c41] at H
           have c41b0 : ((bt a0 a1) == 94) = false := beq_eq_false_iff_ne.mpr c41
           have c41b1 : ((bt a0 a1) != 94) = true := bne_iff_ne.mpr c41
           (first | rw [c41b0] | (simp only [qbk, qcl]; rw [c41b0]) | skip)
           have H' := qa0.mk H
           clear H
           go_wp2
           go_meet
           case rel => exact ⟨_, (false), (by first | rfl | (simp; done) | (simp [*]; done) | (exfalso; simp only [decide_eq_true_eq] at *; omega)), H', ⟨by have := HJ34.out; first | omega | exact Nat.le_refl _⟩, ⟨by (with_reducible repeat (first | refine qa4 ?_ _ | refine qa5 ?_ | refine qa3 ?_ _)); exact BK185.out⟩, ⟨by repeat (first | (with_reducible first | exact HB.out | apply qa6 | apply qa7 | apply qa8 | refine qa9 ?_ GE185.out) | exact HB.out)⟩⟩
         case rest =>
          clear HC40
          try clear c1
          try clear c2
          try clear p2
          try clear c3
          try clear c4
          try clear c5
          try clear c5b0
          try clear c6
          try clear c6b0
          try clear p6
          try clear p7
          try clear q7
          try clear hx7
          try clear c8
          try clear c8b0
          try clear c8b1
          try clear c13
          try clear c13b0
          try clear c13b1
          try clear c15
          try clear c15b0
          try clear c15b1
          try clear c19
          try clear c26
          try clear c30
          try clear c30b0
          try clear c30b1
          try clear c33
          try clear c37
          try clear c37b0
          try clear c37b1
          try clear c38
          try clear c41
          try clear c41b0
          try clear c41b1
          try clear hcz12_0
          try clear hcz12_1
          try clear hcz12_2
          try clear hcz12_3
          try clear hcz12_4
          try clear hcz12_5
          try clear hcz12_6
          try clear hcz12_7
          try clear hcz12_8
          try clear hcz20_0
          try clear hcz20_1
          try clear hcz20_2
          try clear hcz20_3
          try clear hcz21_0
          try clear hcz21_1
          try clear hcz21_2
          try clear hcz21_3
          try clear hcz21_4
          try clear hcz21_5
          try clear hcz21_6
          try clear hcz21_7
          try clear hcz21_8
          try clear hcz27_0
          try clear hcz27_1
          try clear hcz27_2
          try clear hcz27_3
          try clear hcz29_0
          try clear hcz29_1
          try clear hcz29_2
          try clear hcz29_3
          try clear hcz29_4
          try clear hcz29_5
          try clear hcz29_6
          try clear hcz29_7
          try clear hcz29_8
          try clear hcz34_0
          try clear hcz34_1
          try clear hcz34_2
          try clear hcz34_3
          try clear hcz34_4
          try clear hcz34_5
          try clear hcz34_6
          try clear hcz34_7
          try clear hcz34_8
          try clear hcz39_0
          try clear hcz39_1
          try clear hcz39_2
          try clear hcz39_3
          try clear hcz39_4
          try clear hcz39_5
          try clear hcz39_6
          try clear hcz39_7
          try clear hcz39_8
          try clear hfz12_0
          try clear hfz12_1
          try clear hfz12_2
          try clear hfz12_3
          try clear hfz12_4
          try clear hfz12_5
          try clear hfz12_6
          try clear hfz12_7
          try clear hfz12_8
          try clear hfz20_0
          try clear hfz20_1
          try clear hfz20_2
          try clear hfz20_3
          try clear hfz21_0
          try clear hfz21_1
          try clear hfz21_2
          try clear hfz21_3
          try clear hfz21_4
          try clear hfz21_5
          try clear hfz21_6
          try clear hfz21_7
          try clear hfz21_8
          try clear hfz27_0
          try clear hfz27_1
          try clear hfz27_2
          try clear hfz27_3
          try clear hfz29_0
          try clear hfz29_1
          try clear hfz29_2
          try clear hfz29_3
          try clear hfz29_4
          try clear hfz29_5
          try clear hfz29_6
          try clear hfz29_7
          try clear hfz29_8
          try clear hfz34_0
          try clear hfz34_1
          try clear hfz34_2
          try clear hfz34_3
          try clear hfz34_4
          try clear hfz34_5
          try clear hfz34_6
          try clear hfz34_7
          try clear hfz34_8
          try clear hfz39_0
          try clear hfz39_1
          try clear hfz39_2
          try clear hfz39_3
          try clear hfz39_4
          try clear hfz39_5
          try clear hfz39_6
          try clear hfz39_7
          try clear hfz39_8
          try clear p2
          try clear p6
          try clear p7
          try clear q7
          obtain ⟨kq, x71_39, rfl, HA, HJ39, BK185, HB⟩ := hcut
          cases kq with
          | zero => exact absurd HA.out (by simp [qb9.j1])
          | succ kj39 =>
           have H := HA.out
           clear HA
           simp only [qb9.j1] at H
           by_cases c42 : x71_39 = true
           ·subst c42
            have H1 : (some (1, a1, 0, 0, 0, 0, 0, 0, 0, wrap64 (a1 + 1))) = some (r1, r2, r3, r4, r5, r6, r7, r8, r9, r10) := by rw [if_pos rfl] at H; exact H
            clear H
            have H := H1
            clear H1
            simp only [Option.some.injEq, Prod.mk.injEq] at H
            obtain ⟨rfl, rfl, rfl, rfl, rfl, rfl, rfl, rfl, rfl, rfl⟩ := H
            have hcz43_0 : wc.cell? ⟨gb185, 0, none⟩ = some (.int .i64 0) := (qa2 BK185.out 0).trans rfl
            have hcz43_1 : wc.cell? ⟨gb185, 1, none⟩ = some (.int .i64 0) := (qa2 BK185.out 1).trans rfl
            have hcz43_2 : wc.cell? ⟨gb185, 2, none⟩ = some (.int .u64 0) := (qa2 BK185.out 2).trans rfl
            have hcz43_3 : wc.cell? ⟨gb185, 3, none⟩ = some (.int .u64 0) := (qa2 BK185.out 3).trans rfl
            have hcz43_4 : wc.cell? ⟨gb185, 4, none⟩ = some (.int .u64 0) := (qa2 BK185.out 4).trans rfl
            have hcz43_5 : wc.cell? ⟨gb185, 5, none⟩ = some (.int .u64 0) := (qa2 BK185.out 5).trans rfl
            have hcz43_6 : wc.cell? ⟨gb185, 6, none⟩ = some (.int .i64 0) := (qa2 BK185.out 6).trans rfl
            have hcz43_7 : wc.cell? ⟨gb185, 7, none⟩ = some (.int .i64 0) := (qa2 BK185.out 7).trans rfl
            have hcz43_8 : wc.cell? ⟨gb185, 8, none⟩ = some (.int .i64 0) := (qa2 BK185.out 8).trans rfl
            have hfz43_0 := qa1 BK185.out 0
            have hfz43_1 := qa1 BK185.out 1
            have hfz43_2 := qa1 BK185.out 2
            have hfz43_3 := qa1 BK185.out 3
            have hfz43_4 := qa1 BK185.out 4
            have hfz43_5 := qa1 BK185.out 5
            have hfz43_6 := qa1 BK185.out 6
            have hfz43_7 := qa1 BK185.out 7
            have hfz43_8 := qa1 BK185.out 8
            go_wp2
            refine bodyPost_ret (qbv rfl _ _ gb185 67 #[.int .i64 1, .int .i64 a1, .int .u64 0, .int .u64 0, .int .u64 0, .int .u64 0, .int .i64 0, .int .i64 0, .int .i64 0] (0, 0) _ rfl (by (with_reducible repeat (first | refine qa4 ?_ _ | refine qa5 ?_ | refine qa3 ?_ _)); refine qaa (cs := #[.int .i64 1, .int .i64 a1, .int .u64 0, .int .u64 0, .int .u64 0, .int .u64 0, .int .i64 0, .int .i64 0, .int .i64 0]) ?_ 8 _ rfl; (with_reducible repeat (first | refine qa4 ?_ _ | refine qa5 ?_ | refine qa3 ?_ _)); refine qaa (cs := #[.int .i64 1, .int .i64 a1, .int .u64 0, .int .u64 0, .int .u64 0, .int .u64 0, .int .i64 0, .int .i64 0, .int .i64 0]) ?_ 7 _ rfl; (with_reducible repeat (first | refine qa4 ?_ _ | refine qa5 ?_ | refine qa3 ?_ _)); refine qaa (cs := #[.int .i64 1, .int .i64 a1, .int .u64 0, .int .u64 0, .int .u64 0, .int .u64 0, .int .i64 0, .int .i64 0, .int .i64 0]) ?_ 6 _ rfl; (with_reducible repeat (first | refine qa4 ?_ _ | refine qa5 ?_ | refine qa3 ?_ _)); refine qaa (cs := #[.int .i64 1, .int .i64 a1, .int .u64 0, .int .u64 0, .int .u64 0, .int .u64 0, .int .i64 0, .int .i64 0, .int .i64 0]) ?_ 5 _ rfl; (with_reducible repeat (first | refine qa4 ?_ _ | refine qa5 ?_ | refine qa3 ?_ _)); refine qaa (cs := #[.int .i64 1, .int .i64 a1, .int .u64 0, .int .u64 0, .int .u64 0, .int .u64 0, .int .i64 0, .int .i64 0, .int .i64 0]) ?_ 4 _ rfl; (with_reducible repeat (first | refine qa4 ?_ _ | refine qa5 ?_ | refine qa3 ?_ _)); refine qaa (cs := #[.int .i64 1, .int .i64 a1, .int .u64 0, .int .u64 0, .int .u64 0, .int .u64 0, .int .i64 0, .int .i64 0, .int .i64 0]) ?_ 3 _ rfl; (with_reducible repeat (first | refine qa4 ?_ _ | refine qa5 ?_ | refine qa3 ?_ _)); refine qaa (cs := #[.int .i64 1, .int .i64 a1, .int .u64 0, .int .u64 0, .int .u64 0, .int .u64 0, .int .i64 0, .int .i64 0, .int .i64 0]) ?_ 2 _ rfl; (with_reducible repeat (first | refine qa4 ?_ _ | refine qa5 ?_ | refine qa3 ?_ _)); refine qaa (cs := #[.int .i64 1, .int .i64 0, .int .u64 0, .int .u64 0, .int .u64 0, .int .u64 0, .int .i64 0, .int .i64 0, .int .i64 0]) ?_ 1 _ rfl; (with_reducible repeat (first | refine qa4 ?_ _ | refine qa5 ?_ | refine qa3 ?_ _)); refine qaa (cs := #[.int .i64 0, .int .i64 0, .int .u64 0, .int .u64 0, .int .u64 0, .int .u64 0, .int .i64 0, .int .i64 0, .int .i64 0]) ?_ 0 _ rfl; (with_reducible repeat (first | refine qa4 ?_ _ | refine qa5 ?_ | refine qa3 ?_ _)); exact BK185.out) Try.underlying67 rfl (by kernel_rfl)) rfl ?_
            exact ⟨by first | rfl | (simp only [wrap_wrap]; done) | (simp only [wrap_wrap]; rfl) | (simp [qah, qai] <;> rfl) | (simp [*, qah, qai] <;> rfl), by repeat (first | (with_reducible first | exact HB.out | apply qa6 | apply qa7 | apply qa8 | refine qa9 ?_ GE185.out) | exact HB.out)⟩
           ·replace c42 := Bool.eq_false_iff.mpr c42
            subst c42
            have H1 : (if (bt a0 a1) = 36 then (if (wrap64 (a1 + 1)) = (a0.size : Int) then (some (2, a1, 0, 0, 0, 0, 0, 0, 0, wrap64 (a1 + 1))) else (if (wrap64 (a1 + 2)) < (a0.size : Int) then (if 0 ≤ (wrap64 (a1 + 1)) then (if (wrap64 (a1 + 1)) ≤ (wrap64 (a1 + 3)) then (if (wrap64 (a1 + 3)) ≤ (a0.size : Int) then (if (a0.extract ((wrap64 (a1 + 1)) : Int).toNat ((wrap64 (a1 + 3)) : Int).toNat).toList = ([92, 41] : List UInt8) then (some (2, a1, 0, 0, 0, 0, 0, 0, 0, wrap64 (a1 + 1))) else ((qci.f a1 (bt a0 a1)).bind fun bt216 => (some (bt216.1, bt216.2.1, bt216.2.2.1, bt216.2.2.2.1, bt216.2.2.2.2.1, bt216.2.2.2.2.2.1, bt216.2.2.2.2.2.2.1, bt216.2.2.2.2.2.2.2.1, bt216.2.2.2.2.2.2.2.2, wrap64 (a1 + 1))))) else (none)) else (none)) else (none)) else ((qci.f a1 (bt a0 a1)).bind fun bt225 => (some (bt225.1, bt225.2.1, bt225.2.2.1, bt225.2.2.2.1, bt225.2.2.2.2.1, bt225.2.2.2.2.2.1, bt225.2.2.2.2.2.2.1, bt225.2.2.2.2.2.2.2.1, bt225.2.2.2.2.2.2.2.2, wrap64 (a1 + 1)))))) else ((qci.f a1 (bt a0 a1)).bind fun bt234 => (some (bt234.1, bt234.2.1, bt234.2.2.1, bt234.2.2.2.1, bt234.2.2.2.2.1, bt234.2.2.2.2.2.1, bt234.2.2.2.2.2.2.1, bt234.2.2.2.2.2.2.2.1, bt234.2.2.2.2.2.2.2.2, wrap64 (a1 + 1))))) = some (r1, r2, r3, r4, r5, r6, r7, r8, r9, r10) := by rw [if_neg (show ¬ (false = true) by decide)] at H; exact H
            clear H
            have H := H1
            clear H1
            by_cases c44 : (bt a0 a1) = 36
            ·rw [if_pos c44] at H
             have c44b0 : ((bt a0 a1) == 36) = true := beq_iff_eq.mpr c44
             have c44b1 : ((bt a0 a1) != 36) = false := bne_eq_false_iff_eq.mpr c44
             clear c44
             by_cases c45 : (wrap64 (a1 + 1)) = (a0.size : Int)
             ·rw [if_pos c45] at H
              have c45b0 : ((wrap64 (a1 + 1)) == (a0.size : Int)) = true := beq_iff_eq.mpr c45
              have c45b1 : ((wrap64 (a1 + 1)) != (a0.size : Int)) = false := bne_eq_false_iff_eq.mpr c45
              clear c45
              simp only [Option.some.injEq, Prod.mk.injEq] at H
              obtain ⟨rfl, rfl, rfl, rfl, rfl, rfl, rfl, rfl, rfl, rfl⟩ := H
              have hcz46_0 : wc.cell? ⟨gb185, 0, none⟩ = some (.int .i64 0) := (qa2 BK185.out 0).trans rfl
              have hcz46_1 : wc.cell? ⟨gb185, 1, none⟩ = some (.int .i64 0) := (qa2 BK185.out 1).trans rfl
              have hcz46_2 : wc.cell? ⟨gb185, 2, none⟩ = some (.int .u64 0) := (qa2 BK185.out 2).trans rfl
              have hcz46_3 : wc.cell? ⟨gb185, 3, none⟩ = some (.int .u64 0) := (qa2 BK185.out 3).trans rfl
              have hcz46_4 : wc.cell? ⟨gb185, 4, none⟩ = some (.int .u64 0) := (qa2 BK185.out 4).trans rfl
              have hcz46_5 : wc.cell? ⟨gb185, 5, none⟩ = some (.int .u64 0) := (qa2 BK185.out 5).trans rfl
              have hcz46_6 : wc.cell? ⟨gb185, 6, none⟩ = some (.int .i64 0) := (qa2 BK185.out 6).trans rfl
              have hcz46_7 : wc.cell? ⟨gb185, 7, none⟩ = some (.int .i64 0) := (qa2 BK185.out 7).trans rfl
              have hcz46_8 : wc.cell? ⟨gb185, 8, none⟩ = some (.int .i64 0) := (qa2 BK185.out 8).trans rfl
              have hfz46_0 := qa1 BK185.out 0
              have hfz46_1 := qa1 BK185.out 1
              have hfz46_2 := qa1 BK185.out 2
              have hfz46_3 := qa1 BK185.out 3
              have hfz46_4 := qa1 BK185.out 4
              have hfz46_5 := qa1 BK185.out 5
              have hfz46_6 := qa1 BK185.out 6
              have hfz46_7 := qa1 BK185.out 7
              have hfz46_8 := qa1 BK185.out 8
              go_wp2
              refine bodyPost_ret (qbv rfl _ _ gb185 67 #[.int .i64 2, .int .i64 a1, .int .u64 0, .int .u64 0, .int .u64 0, .int .u64 0, .int .i64 0, .int .i64 0, .int .i64 0] (0, 0) _ rfl (by (with_reducible repeat (first | refine qa4 ?_ _ | refine qa5 ?_ | refine qa3 ?_ _)); refine qaa (cs := #[.int .i64 2, .int .i64 a1, .int .u64 0, .int .u64 0, .int .u64 0, .int .u64 0, .int .i64 0, .int .i64 0, .int .i64 0]) ?_ 8 _ rfl; (with_reducible repeat (first | refine qa4 ?_ _ | refine qa5 ?_ | refine qa3 ?_ _)); refine qaa (cs := #[.int .i64 2, .int .i64 a1, .int .u64 0, .int .u64 0, .int .u64 0, .int .u64 0, .int .i64 0, .int .i64 0, .int .i64 0]) ?_ 7 _ rfl; (with_reducible repeat (first | refine qa4 ?_ _ | refine qa5 ?_ | refine qa3 ?_ _)); refine qaa (cs := #[.int .i64 2, .int .i64 a1, .int .u64 0, .int .u64 0, .int .u64 0, .int .u64 0, .int .i64 0, .int .i64 0, .int .i64 0]) ?_ 6 _ rfl; (with_reducible repeat (first | refine qa4 ?_ _ | refine qa5 ?_ | refine qa3 ?_ _)); refine qaa (cs := #[.int .i64 2, .int .i64 a1, .int .u64 0, .int .u64 0, .int .u64 0, .int .u64 0, .int .i64 0, .int .i64 0, .int .i64 0]) ?_ 5 _ rfl; (with_reducible repeat (first | refine qa4 ?_ _ | refine qa5 ?_ | refine qa3 ?_ _)); refine qaa (cs := #[.int .i64 2, .int .i64 a1, .int .u64 0, .int .u64 0, .int .u64 0, .int .u64 0, .int .i64 0, .int .i64 0, .int .i64 0]) ?_ 4 _ rfl; (with_reducible repeat (first | refine qa4 ?_ _ | refine qa5 ?_ | refine qa3 ?_ _)); refine qaa (cs := #[.int .i64 2, .int .i64 a1, .int .u64 0, .int .u64 0, .int .u64 0, .int .u64 0, .int .i64 0, .int .i64 0, .int .i64 0]) ?_ 3 _ rfl; (with_reducible repeat (first | refine qa4 ?_ _ | refine qa5 ?_ | refine qa3 ?_ _)); refine qaa (cs := #[.int .i64 2, .int .i64 a1, .int .u64 0, .int .u64 0, .int .u64 0, .int .u64 0, .int .i64 0, .int .i64 0, .int .i64 0]) ?_ 2 _ rfl; (with_reducible repeat (first | refine qa4 ?_ _ | refine qa5 ?_ | refine qa3 ?_ _)); refine qaa (cs := #[.int .i64 2, .int .i64 0, .int .u64 0, .int .u64 0, .int .u64 0, .int .u64 0, .int .i64 0, .int .i64 0, .int .i64 0]) ?_ 1 _ rfl; (with_reducible repeat (first | refine qa4 ?_ _ | refine qa5 ?_ | refine qa3 ?_ _)); refine qaa (cs := #[.int .i64 0, .int .i64 0, .int .u64 0, .int .u64 0, .int .u64 0, .int .u64 0, .int .i64 0, .int .i64 0, .int .i64 0]) ?_ 0 _ rfl; (with_reducible repeat (first | refine qa4 ?_ _ | refine qa5 ?_ | refine qa3 ?_ _)); exact BK185.out) Try.underlying67 rfl (by kernel_rfl)) rfl ?_
              exact ⟨by first | rfl | (simp only [wrap_wrap]; done) | (simp only [wrap_wrap]; rfl) | (simp [qah, qai] <;> rfl) | (simp [*, qah, qai] <;> rfl), by repeat (first | (with_reducible first | exact HB.out | apply qa6 | apply qa7 | apply qa8 | refine qa9 ?_ GE185.out) | exact HB.out)⟩
             ·rw [if_neg c45] at H
              have c45b0 : ((wrap64 (a1 + 1)) == (a0.size : Int)) = false := beq_eq_false_iff_ne.mpr c45
              have c45b1 : ((wrap64 (a1 + 1)) != (a0.size : Int)) = true := bne_iff_ne.mpr c45
              by_cases c47 : (wrap64 (a1 + 2)) < (a0.size : Int)
              ·rw [if_pos c47] at H
               have c47b0 : decide ((wrap64 (a1 + 2)) < (a0.size : Int)) = true := decide_eq_true c47
               clear c47
               obtain ⟨ji48, hji48⟩ : ∃ j_ : Int, (wrap64 (a1 + 1)) = j_ := ⟨_, rfl⟩
               replace H : (if 0 ≤ (ji48) then (if (ji48) ≤ (wrap64 (a1 + 3)) then (if (wrap64 (a1 + 3)) ≤ (a0.size : Int) then (if (a0.extract ((ji48) : Int).toNat ((wrap64 (a1 + 3)) : Int).toNat).toList = ([92, 41] : List UInt8) then (some (2, a1, 0, 0, 0, 0, 0, 0, 0, ji48)) else ((qci.f a1 (bt a0 a1)).bind fun bt216 => (some (bt216.1, bt216.2.1, bt216.2.2.1, bt216.2.2.2.1, bt216.2.2.2.2.1, bt216.2.2.2.2.2.1, bt216.2.2.2.2.2.2.1, bt216.2.2.2.2.2.2.2.1, bt216.2.2.2.2.2.2.2.2, ji48)))) else (none)) else (none)) else (none)) = some (r1, r2, r3, r4, r5, r6, r7, r8, r9, r10) := by first | (rw [hji48] at H; exact H) | (simp only [hji48] at H ⊢; exact H)
               (try rw [hji48] at c45b0)
               (try rw [hji48] at c45b1)
               have hji48w : (IntKind.i64.wrap (a1 + 1)) = ji48 := (qbk _).trans hji48
               by_cases c49 : 0 ≤ (ji48)
               ·rw [if_pos c49] at H
                have c49b0 := eq_true c49
                have c49b1 : decide (0 ≤ (ji48)) = true := decide_eq_true c49
                clear c49
                by_cases c50 : (ji48) ≤ (wrap64 (a1 + 3))
                ·rw [if_pos c50] at H
                 have c50b0 := eq_true c50
                 have c50b1 : decide ((ji48) ≤ (wrap64 (a1 + 3))) = true := decide_eq_true c50
                 by_cases c51 : (wrap64 (a1 + 3)) ≤ (a0.size : Int)
                 ·rw [if_pos c51] at H
                  have c51b0 := eq_true c51
                  have c51b1 : decide ((wrap64 (a1 + 3)) ≤ (a0.size : Int)) = true := decide_eq_true c51
                  by_cases c52 : (a0.extract ((ji48) : Int).toNat ((wrap64 (a1 + 3)) : Int).toNat).toList = ([92, 41] : List UInt8)
                  ·rw [if_pos c52] at H
                   have c52b0 : ((a0.extract ((ji48) : Int).toNat ((wrap64 (a1 + 3)) : Int).toNat).toList == ([92, 41] : List UInt8)) = true := beq_iff_eq.mpr c52
                   have c52b1 : ((a0.extract ((ji48) : Int).toNat ((wrap64 (a1 + 3)) : Int).toNat).toList != ([92, 41] : List UInt8)) = false := bne_eq_false_iff_eq.mpr c52
                   clear c52
                   simp only [Option.some.injEq, Prod.mk.injEq] at H
                   obtain ⟨rfl, rfl, rfl, rfl, rfl, rfl, rfl, rfl, rfl, rfl⟩ := H
                   have hcz53_0 : wc.cell? ⟨gb185, 0, none⟩ = some (.int .i64 0) := (qa2 BK185.out 0).trans rfl
                   have hcz53_1 : wc.cell? ⟨gb185, 1, none⟩ = some (.int .i64 0) := (qa2 BK185.out 1).trans rfl
                   have hcz53_2 : wc.cell? ⟨gb185, 2, none⟩ = some (.int .u64 0) := (qa2 BK185.out 2).trans rfl
                   have hcz53_3 : wc.cell? ⟨gb185, 3, none⟩ = some (.int .u64 0) := (qa2 BK185.out 3).trans rfl
                   have hcz53_4 : wc.cell? ⟨gb185, 4, none⟩ = some (.int .u64 0) := (qa2 BK185.out 4).trans rfl
                   have hcz53_5 : wc.cell? ⟨gb185, 5, none⟩ = some (.int .u64 0) := (qa2 BK185.out 5).trans rfl
                   have hcz53_6 : wc.cell? ⟨gb185, 6, none⟩ = some (.int .i64 0) := (qa2 BK185.out 6).trans rfl
                   have hcz53_7 : wc.cell? ⟨gb185, 7, none⟩ = some (.int .i64 0) := (qa2 BK185.out 7).trans rfl
                   have hcz53_8 : wc.cell? ⟨gb185, 8, none⟩ = some (.int .i64 0) := (qa2 BK185.out 8).trans rfl
                   have hfz53_0 := qa1 BK185.out 0
                   have hfz53_1 := qa1 BK185.out 1
                   have hfz53_2 := qa1 BK185.out 2
                   have hfz53_3 := qa1 BK185.out 3
                   have hfz53_4 := qa1 BK185.out 4
                   have hfz53_5 := qa1 BK185.out 5
                   have hfz53_6 := qa1 BK185.out 6
                   have hfz53_7 := qa1 BK185.out 7
                   have hfz53_8 := qa1 BK185.out 8
                   go_wp2
                   refine bodyPost_ret (qbv rfl _ _ gb185 67 #[.int .i64 2, .int .i64 a1, .int .u64 0, .int .u64 0, .int .u64 0, .int .u64 0, .int .i64 0, .int .i64 0, .int .i64 0] (0, 0) _ rfl (by (with_reducible repeat (first | refine qa4 ?_ _ | refine qa5 ?_ | refine qa3 ?_ _)); refine qaa (cs := #[.int .i64 2, .int .i64 a1, .int .u64 0, .int .u64 0, .int .u64 0, .int .u64 0, .int .i64 0, .int .i64 0, .int .i64 0]) ?_ 8 _ rfl; (with_reducible repeat (first | refine qa4 ?_ _ | refine qa5 ?_ | refine qa3 ?_ _)); refine qaa (cs := #[.int .i64 2, .int .i64 a1, .int .u64 0, .int .u64 0, .int .u64 0, .int .u64 0, .int .i64 0, .int .i64 0, .int .i64 0]) ?_ 7 _ rfl; (with_reducible repeat (first | refine qa4 ?_ _ | refine qa5 ?_ | refine qa3 ?_ _)); refine qaa (cs := #[.int .i64 2, .int .i64 a1, .int .u64 0, .int .u64 0, .int .u64 0, .int .u64 0, .int .i64 0, .int .i64 0, .int .i64 0]) ?_ 6 _ rfl; (with_reducible repeat (first | refine qa4 ?_ _ | refine qa5 ?_ | refine qa3 ?_ _)); refine qaa (cs := #[.int .i64 2, .int .i64 a1, .int .u64 0, .int .u64 0, .int .u64 0, .int .u64 0, .int .i64 0, .int .i64 0, .int .i64 0]) ?_ 5 _ rfl; (with_reducible repeat (first | refine qa4 ?_ _ | refine qa5 ?_ | refine qa3 ?_ _)); refine qaa (cs := #[.int .i64 2, .int .i64 a1, .int .u64 0, .int .u64 0, .int .u64 0, .int .u64 0, .int .i64 0, .int .i64 0, .int .i64 0]) ?_ 4 _ rfl; (with_reducible repeat (first | refine qa4 ?_ _ | refine qa5 ?_ | refine qa3 ?_ _)); refine qaa (cs := #[.int .i64 2, .int .i64 a1, .int .u64 0, .int .u64 0, .int .u64 0, .int .u64 0, .int .i64 0, .int .i64 0, .int .i64 0]) ?_ 3 _ rfl; (with_reducible repeat (first | refine qa4 ?_ _ | refine qa5 ?_ | refine qa3 ?_ _)); refine qaa (cs := #[.int .i64 2, .int .i64 a1, .int .u64 0, .int .u64 0, .int .u64 0, .int .u64 0, .int .i64 0, .int .i64 0, .int .i64 0]) ?_ 2 _ rfl; (with_reducible repeat (first | refine qa4 ?_ _ | refine qa5 ?_ | refine qa3 ?_ _)); refine qaa (cs := #[.int .i64 2, .int .i64 0, .int .u64 0, .int .u64 0, .int .u64 0, .int .u64 0, .int .i64 0, .int .i64 0, .int .i64 0]) ?_ 1 _ rfl; (with_reducible repeat (first | refine qa4 ?_ _ | refine qa5 ?_ | refine qa3 ?_ _)); refine qaa (cs := #[.int .i64 0, .int .i64 0, .int .u64 0, .int .u64 0, .int .u64 0, .int .u64 0, .int .i64 0, .int .i64 0, .int .i64 0]) ?_ 0 _ rfl; (with_reducible repeat (first | refine qa4 ?_ _ | refine qa5 ?_ | refine qa3 ?_ _)); exact BK185.out) Try.underlying67 rfl (by kernel_rfl)) rfl ?_
                   exact ⟨by first | rfl | (simp only [wrap_wrap]; done) | (simp only [wrap_wrap]; rfl) | (simp [qah, qai] <;> rfl) | (simp only [← hji48]; first | rfl | (simp [qah, qai] <;> rfl)) | (simp [*, qah, qai] <;> rfl), by repeat (first | (with_reducible first | exact HB.out | apply qa6 | apply qa7 | apply qa8 | refine qa9 ?_ GE185.out) | exact HB.out)⟩
                  ·rw [if_neg c52] at H
                   have c52b0 : ((a0.extract ((ji48) : Int).toNat ((wrap64 (a1 + 3)) : Int).toNat).toList == ([92, 41] : List UInt8)) = false := beq_eq_false_iff_ne.mpr c52
                   have c52b1 : ((a0.extract ((ji48) : Int).toNat ((wrap64 (a1 + 3)) : Int).toNat).toList != ([92, 41] : List UInt8)) = true := bne_iff_ne.mpr c52
                   replace H := Option.bind_eq_some_iff.mp H
                   obtain ⟨⟨t216, t217, t218, t219, t220, t221, t222, t223, t224⟩, A540, H⟩ := H
                   replace H : (some (t216, t217, t218, t219, t220, t221, t222, t223, t224, ji48)) = some (r1, r2, r3, r4, r5, r6, r7, r8, r9, r10) := H
                   have A54 := qa0.mk A540
                   clear A540
                   simp only [Option.some.injEq, Prod.mk.injEq] at H
                   obtain ⟨rfl, rfl, rfl, rfl, rfl, rfl, rfl, rfl, rfl, rfl⟩ := H
                   go_wp2_with (first | ((with_reducible refine qbc (f := 53) rfl ?_); refine qcc (some 19) rfl rfl Try.func53 (by kernel_rfl) rfl #[.int .i64 a1, .int .u8 (bt a0 a1)] rfl (by (try simp only [List.map_toArray, List.map_cons, List.map_nil]); first | done | rfl | (simp only [List.length_drop, List.length_take]; rfl)) ?_; (with_reducible refine (qci.calls a1 (bt a0 a1) t216 t217 t218 t219 t220 t221 t222 t223 t224 _ A54.out).mono ?_); rintro e w55 ⟨rfl, hb⟩; refine ⟨_, rfl, ?_⟩; have n0_ := qa0.mk (qae (g := gb185) (o := .cells #[.int .i64 0, .int .i64 0, .int .u64 0, .int .u64 0, .int .u64 0, .int .u64 0, .int .i64 0, .int .i64 0, .int .i64 0] 67 (0, 0)) (by (with_reducible repeat (first | refine qa4 ?_ _ | refine qa5 ?_ | refine qa3 ?_ _)); exact BK185.out) hb); have n1_ := qa0.mk (qap (by repeat (first | (with_reducible first | exact HB.out | apply qa6 | apply qa7 | apply qa8 | refine qa9 ?_ GE185.out) | exact HB.out)) hb); clear BK185; clear HB; have BK185 := n0_; have HB := n1_; clear n0_ n1_; (try clear hb); (try clear hb2); (try clear hk); (try clear hi); have hcz56_0 : w55.cell? ⟨gb185, 0, none⟩ = some (.int .i64 0) := (qa2 BK185.out 0).trans rfl; have hcz56_1 : w55.cell? ⟨gb185, 1, none⟩ = some (.int .i64 0) := (qa2 BK185.out 1).trans rfl; have hcz56_2 : w55.cell? ⟨gb185, 2, none⟩ = some (.int .u64 0) := (qa2 BK185.out 2).trans rfl; have hcz56_3 : w55.cell? ⟨gb185, 3, none⟩ = some (.int .u64 0) := (qa2 BK185.out 3).trans rfl; have hcz56_4 : w55.cell? ⟨gb185, 4, none⟩ = some (.int .u64 0) := (qa2 BK185.out 4).trans rfl; have hcz56_5 : w55.cell? ⟨gb185, 5, none⟩ = some (.int .u64 0) := (qa2 BK185.out 5).trans rfl; have hcz56_6 : w55.cell? ⟨gb185, 6, none⟩ = some (.int .i64 0) := (qa2 BK185.out 6).trans rfl; have hcz56_7 : w55.cell? ⟨gb185, 7, none⟩ = some (.int .i64 0) := (qa2 BK185.out 7).trans rfl; have hcz56_8 : w55.cell? ⟨gb185, 8, none⟩ = some (.int .i64 0) := (qa2 BK185.out 8).trans rfl; have hfz56_0 := qa1 BK185.out 0; have hfz56_1 := qa1 BK185.out 1; have hfz56_2 := qa1 BK185.out 2; have hfz56_3 := qa1 BK185.out 3; have hfz56_4 := qa1 BK185.out 4; have hfz56_5 := qa1 BK185.out 5; have hfz56_6 := qa1 BK185.out 6; have hfz56_7 := qa1 BK185.out 7; have hfz56_8 := qa1 BK185.out 8))
                   refine bodyPost_ret (qbv rfl _ _ gb185 67 #[.int .i64 t216, .int .i64 t217, .int .u64 t218, .int .u64 t219, .int .u64 t220, .int .u64 t221, .int .i64 t222, .int .i64 t223, .int .i64 t224] (0, 0) _ rfl (by (with_reducible repeat (first | refine qa4 ?_ _ | refine qa5 ?_ | refine qa3 ?_ _)); refine qaa (cs := #[.int .i64 t216, .int .i64 t217, .int .u64 t218, .int .u64 t219, .int .u64 t220, .int .u64 t221, .int .i64 t222, .int .i64 t223, .int .i64 0]) ?_ 8 _ rfl; (with_reducible repeat (first | refine qa4 ?_ _ | refine qa5 ?_ | refine qa3 ?_ _)); refine qaa (cs := #[.int .i64 t216, .int .i64 t217, .int .u64 t218, .int .u64 t219, .int .u64 t220, .int .u64 t221, .int .i64 t222, .int .i64 0, .int .i64 0]) ?_ 7 _ rfl; (with_reducible repeat (first | refine qa4 ?_ _ | refine qa5 ?_ | refine qa3 ?_ _)); refine qaa (cs := #[.int .i64 t216, .int .i64 t217, .int .u64 t218, .int .u64 t219, .int .u64 t220, .int .u64 t221, .int .i64 0, .int .i64 0, .int .i64 0]) ?_ 6 _ rfl; (with_reducible repeat (first | refine qa4 ?_ _ | refine qa5 ?_ | refine qa3 ?_ _)); refine qaa (cs := #[.int .i64 t216, .int .i64 t217, .int .u64 t218, .int .u64 t219, .int .u64 t220, .int .u64 0, .int .i64 0, .int .i64 0, .int .i64 0]) ?_ 5 _ rfl; (with_reducible repeat (first | refine qa4 ?_ _ | refine qa5 ?_ | refine qa3 ?_ _)); refine qaa (cs := #[.int .i64 t216, .int .i64 t217, .int .u64 t218, .int .u64 t219, .int .u64 0, .int .u64 0, .int .i64 0, .int .i64 0, .int .i64 0]) ?_ 4 _ rfl; (with_reducible repeat (first | refine qa4 ?_ _ | refine qa5 ?_ | refine qa3 ?_ _)); refine qaa (cs := #[.int .i64 t216, .int .i64 t217, .int .u64 t218, .int .u64 0, .int .u64 0, .int .u64 0, .int .i64 0, .int .i64 0, .int .i64 0]) ?_ 3 _ rfl; (with_reducible repeat (first | refine qa4 ?_ _ | refine qa5 ?_ | refine qa3 ?_ _)); refine qaa (cs := #[.int .i64 t216, .int .i64 t217, .int .u64 0, .int .u64 0, .int .u64 0, .int .u64 0, .int .i64 0, .int .i64 0, .int .i64 0]) ?_ 2 _ rfl; (with_reducible repeat (first | refine qa4 ?_ _ | refine qa5 ?_ | refine qa3 ?_ _)); refine qaa (cs := #[.int .i64 t216, .int .i64 0, .int .u64 0, .int .u64 0, .int .u64 0, .int .u64 0, .int .i64 0, .int .i64 0, .int .i64 0]) ?_ 1 _ rfl; (with_reducible repeat (first | refine qa4 ?_ _ | refine qa5 ?_ | refine qa3 ?_ _)); refine qaa (cs := #[.int .i64 0, .int .i64 0, .int .u64 0, .int .u64 0, .int .u64 0, .int .u64 0, .int .i64 0, .int .i64 0, .int .i64 0]) ?_ 0 _ rfl; (with_reducible repeat (first | refine qa4 ?_ _ | refine qa5 ?_ | refine qa3 ?_ _)); exact BK185.out) Try.underlying67 rfl (by kernel_rfl)) rfl ?_
                   exact ⟨by first | rfl | (simp only [wrap_wrap]; done) | (simp only [wrap_wrap]; rfl) | (simp [qah, qai] <;> rfl) | (simp only [← hji48]; first | rfl | (simp [qah, qai] <;> rfl)) | (simp [*, qah, qai] <;> rfl), by repeat (first | (with_reducible first | exact HB.out | apply qa6 | apply qa7 | apply qa8 | refine qa9 ?_ GE185.out) | exact HB.out)⟩
                 ·rw [if_neg c51] at H
                  exact absurd H (by simp)
                ·rw [if_neg c50] at H
                 exact absurd H (by simp)
               ·rw [if_neg c49] at H
                exact absurd H (by simp)
              ·rw [if_neg c47] at H
               have c47b0 : decide ((wrap64 (a1 + 2)) < (a0.size : Int)) = false := decide_eq_false c47
               clear c47
               replace H := Option.bind_eq_some_iff.mp H
               obtain ⟨⟨t225, t226, t227, t228, t229, t230, t231, t232, t233⟩, A570, H⟩ := H
               replace H : (some (t225, t226, t227, t228, t229, t230, t231, t232, t233, wrap64 (a1 + 1))) = some (r1, r2, r3, r4, r5, r6, r7, r8, r9, r10) := H
               have A57 := qa0.mk A570
               clear A570
               simp only [Option.some.injEq, Prod.mk.injEq] at H
               obtain ⟨rfl, rfl, rfl, rfl, rfl, rfl, rfl, rfl, rfl, rfl⟩ := H
               go_wp2_with (first | ((with_reducible refine qbc (f := 53) rfl ?_); refine qcc (some 19) rfl rfl Try.func53 (by kernel_rfl) rfl #[.int .i64 a1, .int .u8 (bt a0 a1)] rfl (by (try simp only [List.map_toArray, List.map_cons, List.map_nil]); first | done | rfl | (simp only [List.length_drop, List.length_take]; rfl)) ?_; (with_reducible refine (qci.calls a1 (bt a0 a1) t225 t226 t227 t228 t229 t230 t231 t232 t233 _ A57.out).mono ?_); rintro e w58 ⟨rfl, hb⟩; refine ⟨_, rfl, ?_⟩; have n0_ := qa0.mk (qae (g := gb185) (o := .cells #[.int .i64 0, .int .i64 0, .int .u64 0, .int .u64 0, .int .u64 0, .int .u64 0, .int .i64 0, .int .i64 0, .int .i64 0] 67 (0, 0)) (by (with_reducible repeat (first | refine qa4 ?_ _ | refine qa5 ?_ | refine qa3 ?_ _)); exact BK185.out) hb); have n1_ := qa0.mk (qap (by repeat (first | (with_reducible first | exact HB.out | apply qa6 | apply qa7 | apply qa8 | refine qa9 ?_ GE185.out) | exact HB.out)) hb); clear BK185; clear HB; have BK185 := n0_; have HB := n1_; clear n0_ n1_; (try clear hb); (try clear hb2); (try clear hk); (try clear hi); have hcz59_0 : w58.cell? ⟨gb185, 0, none⟩ = some (.int .i64 0) := (qa2 BK185.out 0).trans rfl; have hcz59_1 : w58.cell? ⟨gb185, 1, none⟩ = some (.int .i64 0) := (qa2 BK185.out 1).trans rfl; have hcz59_2 : w58.cell? ⟨gb185, 2, none⟩ = some (.int .u64 0) := (qa2 BK185.out 2).trans rfl; have hcz59_3 : w58.cell? ⟨gb185, 3, none⟩ = some (.int .u64 0) := (qa2 BK185.out 3).trans rfl; have hcz59_4 : w58.cell? ⟨gb185, 4, none⟩ = some (.int .u64 0) := (qa2 BK185.out 4).trans rfl; have hcz59_5 : w58.cell? ⟨gb185, 5, none⟩ = some (.int .u64 0) := (qa2 BK185.out 5).trans rfl; have hcz59_6 : w58.cell? ⟨gb185, 6, none⟩ = some (.int .i64 0) := (qa2 BK185.out 6).trans rfl; have hcz59_7 : w58.cell? ⟨gb185, 7, none⟩ = some (.int .i64 0) := (qa2 BK185.out 7).trans rfl; have hcz59_8 : w58.cell? ⟨gb185, 8, none⟩ = some (.int .i64 0) := (qa2 BK185.out 8).trans rfl; have hfz59_0 := qa1 BK185.out 0; have hfz59_1 := qa1 BK185.out 1; have hfz59_2 := qa1 BK185.out 2; have hfz59_3 := qa1 BK185.out 3; have hfz59_4 := qa1 BK185.out 4; have hfz59_5 := qa1 BK185.out 5; have hfz59_6 := qa1 BK185.out 6; have hfz59_7 := qa1 BK185.out 7; have hfz59_8 := qa1 BK185.out 8))
               refine bodyPost_ret (qbv rfl _ _ gb185 67 #[.int .i64 t225, .int .i64 t226, .int .u64 t227, .int .u64 t228, .int .u64 t229, .int .u64 t230, .int .i64 t231, .int .i64 t232, .int .i64 t233] (0, 0) _ rfl (by (with_reducible repeat (first | refine qa4 ?_ _ | refine qa5 ?_ | refine qa3 ?_ _)); refine qaa (cs := #[.int .i64 t225, .int .i64 t226, .int .u64 t227, .int .u64 t228, .int .u64 t229, .int .u64 t230, .int .i64 t231, .int .i64 t232, .int .i64 0]) ?_ 8 _ rfl; (with_reducible repeat (first | refine qa4 ?_ _ | refine qa5 ?_ | refine qa3 ?_ _)); refine qaa (cs := #[.int .i64 t225, .int .i64 t226, .int .u64 t227, .int .u64 t228, .int .u64 t229, .int .u64 t230, .int .i64 t231, .int .i64 0, .int .i64 0]) ?_ 7 _ rfl; (with_reducible repeat (first | refine qa4 ?_ _ | refine qa5 ?_ | refine qa3 ?_ _)); refine qaa (cs := #[.int .i64 t225, .int .i64 t226, .int .u64 t227, .int .u64 t228, .int .u64 t229, .int .u64 t230, .int .i64 0, .int .i64 0, .int .i64 0]) ?_ 6 _ rfl; (with_reducible repeat (first | refine qa4 ?_ _ | refine qa5 ?_ | refine qa3 ?_ _)); refine qaa (cs := #[.int .i64 t225, .int .i64 t226, .int .u64 t227, .int .u64 t228, .int .u64 t229, .int .u64 0, .int .i64 0, .int .i64 0, .int .i64 0]) ?_ 5 _ rfl; (with_reducible repeat (first | refine qa4 ?_ _ | refine qa5 ?_ | refine qa3 ?_ _)); refine qaa (cs := #[.int .i64 t225, .int .i64 t226, .int .u64 t227, .int .u64 t228, .int .u64 0, .int .u64 0, .int .i64 0, .int .i64 0, .int .i64 0]) ?_ 4 _ rfl; (with_reducible repeat (first | refine qa4 ?_ _ | refine qa5 ?_ | refine qa3 ?_ _)); refine qaa (cs := #[.int .i64 t225, .int .i64 t226, .int .u64 t227, .int .u64 0, .int .u64 0, .int .u64 0, .int .i64 0, .int .i64 0, .int .i64 0]) ?_ 3 _ rfl; (with_reducible repeat (first | refine qa4 ?_ _ | refine qa5 ?_ | refine qa3 ?_ _)); refine qaa (cs := #[.int .i64 t225, .int .i64 t226, .int .u64 0, .int .u64 0, .int .u64 0, .int .u64 0, .int .i64 0, .int .i64 0, .int .i64 0]) ?_ 2 _ rfl; (with_reducible repeat (first | refine qa4 ?_ _ | refine qa5 ?_ | refine qa3 ?_ _)); refine qaa (cs := #[.int .i64 t225, .int .i64 0, .int .u64 0, .int .u64 0, .int .u64 0, .int .u64 0, .int .i64 0, .int .i64 0, .int .i64 0]) ?_ 1 _ rfl; (with_reducible repeat (first | refine qa4 ?_ _ | refine qa5 ?_ | refine qa3 ?_ _)); refine qaa (cs := #[.int .i64 0, .int .i64 0, .int .u64 0, .int .u64 0, .int .u64 0, .int .u64 0, .int .i64 0, .int .i64 0, .int .i64 0]) ?_ 0 _ rfl; (with_reducible repeat (first | refine qa4 ?_ _ | refine qa5 ?_ | refine qa3 ?_ _)); exact BK185.out) Try.underlying67 rfl (by kernel_rfl)) rfl ?_
               exact ⟨by first | rfl | (simp only [wrap_wrap]; done) | (simp only [wrap_wrap]; rfl) | (simp [qah, qai] <;> rfl) | (simp [*, qah, qai] <;> rfl), by repeat (first | (with_reducible first | exact HB.out | apply qa6 | apply qa7 | apply qa8 | refine qa9 ?_ GE185.out) | exact HB.out)⟩
            ·rw [if_neg c44] at H
             have c44b0 : ((bt a0 a1) == 36) = false := beq_eq_false_iff_ne.mpr c44
             have c44b1 : ((bt a0 a1) != 36) = true := bne_iff_ne.mpr c44
             replace H := Option.bind_eq_some_iff.mp H
             obtain ⟨⟨t234, t235, t236, t237, t238, t239, t240, t241, t242⟩, A600, H⟩ := H
             replace H : (some (t234, t235, t236, t237, t238, t239, t240, t241, t242, wrap64 (a1 + 1))) = some (r1, r2, r3, r4, r5, r6, r7, r8, r9, r10) := H
             have A60 := qa0.mk A600
             clear A600
             simp only [Option.some.injEq, Prod.mk.injEq] at H
             obtain ⟨rfl, rfl, rfl, rfl, rfl, rfl, rfl, rfl, rfl, rfl⟩ := H
             go_wp2_with (first | ((with_reducible refine qbc (f := 53) rfl ?_); refine qcc (some 19) rfl rfl Try.func53 (by kernel_rfl) rfl #[.int .i64 a1, .int .u8 (bt a0 a1)] rfl (by (try simp only [List.map_toArray, List.map_cons, List.map_nil]); first | done | rfl | (simp only [List.length_drop, List.length_take]; rfl)) ?_; (with_reducible refine (qci.calls a1 (bt a0 a1) t234 t235 t236 t237 t238 t239 t240 t241 t242 _ A60.out).mono ?_); rintro e w61 ⟨rfl, hb⟩; refine ⟨_, rfl, ?_⟩; have n0_ := qa0.mk (qae (g := gb185) (o := .cells #[.int .i64 0, .int .i64 0, .int .u64 0, .int .u64 0, .int .u64 0, .int .u64 0, .int .i64 0, .int .i64 0, .int .i64 0] 67 (0, 0)) (by (with_reducible repeat (first | refine qa4 ?_ _ | refine qa5 ?_ | refine qa3 ?_ _)); exact BK185.out) hb); have n1_ := qa0.mk (qap (by repeat (first | (with_reducible first | exact HB.out | apply qa6 | apply qa7 | apply qa8 | refine qa9 ?_ GE185.out) | exact HB.out)) hb); clear BK185; clear HB; have BK185 := n0_; have HB := n1_; clear n0_ n1_; (try clear hb); (try clear hb2); (try clear hk); (try clear hi); have hcz62_0 : w61.cell? ⟨gb185, 0, none⟩ = some (.int .i64 0) := (qa2 BK185.out 0).trans rfl; have hcz62_1 : w61.cell? ⟨gb185, 1, none⟩ = some (.int .i64 0) := (qa2 BK185.out 1).trans rfl; have hcz62_2 : w61.cell? ⟨gb185, 2, none⟩ = some (.int .u64 0) := (qa2 BK185.out 2).trans rfl; have hcz62_3 : w61.cell? ⟨gb185, 3, none⟩ = some (.int .u64 0) := (qa2 BK185.out 3).trans rfl; have hcz62_4 : w61.cell? ⟨gb185, 4, none⟩ = some (.int .u64 0) := (qa2 BK185.out 4).trans rfl; have hcz62_5 : w61.cell? ⟨gb185, 5, none⟩ = some (.int .u64 0) := (qa2 BK185.out 5).trans rfl; have hcz62_6 : w61.cell? ⟨gb185, 6, none⟩ = some (.int .i64 0) := (qa2 BK185.out 6).trans rfl; have hcz62_7 : w61.cell? ⟨gb185, 7, none⟩ = some (.int .i64 0) := (qa2 BK185.out 7).trans rfl; have hcz62_8 : w61.cell? ⟨gb185, 8, none⟩ = some (.int .i64 0) := (qa2 BK185.out 8).trans rfl; have hfz62_0 := qa1 BK185.out 0; have hfz62_1 := qa1 BK185.out 1; have hfz62_2 := qa1 BK185.out 2; have hfz62_3 := qa1 BK185.out 3; have hfz62_4 := qa1 BK185.out 4; have hfz62_5 := qa1 BK185.out 5; have hfz62_6 := qa1 BK185.out 6; have hfz62_7 := qa1 BK185.out 7; have hfz62_8 := qa1 BK185.out 8))
             refine bodyPost_ret (qbv rfl _ _ gb185 67 #[.int .i64 t234, .int .i64 t235, .int .u64 t236, .int .u64 t237, .int .u64 t238, .int .u64 t239, .int .i64 t240, .int .i64 t241, .int .i64 t242] (0, 0) _ rfl (by (with_reducible repeat (first | refine qa4 ?_ _ | refine qa5 ?_ | refine qa3 ?_ _)); refine qaa (cs := #[.int .i64 t234, .int .i64 t235, .int .u64 t236, .int .u64 t237, .int .u64 t238, .int .u64 t239, .int .i64 t240, .int .i64 t241, .int .i64 0]) ?_ 8 _ rfl; (with_reducible repeat (first | refine qa4 ?_ _ | refine qa5 ?_ | refine qa3 ?_ _)); refine qaa (cs := #[.int .i64 t234, .int .i64 t235, .int .u64 t236, .int .u64 t237, .int .u64 t238, .int .u64 t239, .int .i64 t240, .int .i64 0, .int .i64 0]) ?_ 7 _ rfl; (with_reducible repeat (first | refine qa4 ?_ _ | refine qa5 ?_ | refine qa3 ?_ _)); refine qaa (cs := #[.int .i64 t234, .int .i64 t235, .int .u64 t236, .int .u64 t237, .int .u64 t238, .int .u64 t239, .int .i64 0, .int .i64 0, .int .i64 0]) ?_ 6 _ rfl; (with_reducible repeat (first | refine qa4 ?_ _ | refine qa5 ?_ | refine qa3 ?_ _)); refine qaa (cs := #[.int .i64 t234, .int .i64 t235, .int .u64 t236, .int .u64 t237, .int .u64 t238, .int .u64 0, .int .i64 0, .int .i64 0, .int .i64 0]) ?_ 5 _ rfl; (with_reducible repeat (first | refine qa4 ?_ _ | refine qa5 ?_ | refine qa3 ?_ _)); refine qaa (cs := #[.int .i64 t234, .int .i64 t235, .int .u64 t236, .int .u64 t237, .int .u64 0, .int .u64 0, .int .i64 0, .int .i64 0, .int .i64 0]) ?_ 4 _ rfl; (with_reducible repeat (first | refine qa4 ?_ _ | refine qa5 ?_ | refine qa3 ?_ _)); refine qaa (cs := #[.int .i64 t234, .int .i64 t235, .int .u64 t236, .int .u64 0, .int .u64 0, .int .u64 0, .int .i64 0, .int .i64 0, .int .i64 0]) ?_ 3 _ rfl; (with_reducible repeat (first | refine qa4 ?_ _ | refine qa5 ?_ | refine qa3 ?_ _)); refine qaa (cs := #[.int .i64 t234, .int .i64 t235, .int .u64 0, .int .u64 0, .int .u64 0, .int .u64 0, .int .i64 0, .int .i64 0, .int .i64 0]) ?_ 2 _ rfl; (with_reducible repeat (first | refine qa4 ?_ _ | refine qa5 ?_ | refine qa3 ?_ _)); refine qaa (cs := #[.int .i64 t234, .int .i64 0, .int .u64 0, .int .u64 0, .int .u64 0, .int .u64 0, .int .i64 0, .int .i64 0, .int .i64 0]) ?_ 1 _ rfl; (with_reducible repeat (first | refine qa4 ?_ _ | refine qa5 ?_ | refine qa3 ?_ _)); refine qaa (cs := #[.int .i64 0, .int .i64 0, .int .u64 0, .int .u64 0, .int .u64 0, .int .u64 0, .int .i64 0, .int .i64 0, .int .i64 0]) ?_ 0 _ rfl; (with_reducible repeat (first | refine qa4 ?_ _ | refine qa5 ?_ | refine qa3 ?_ _)); exact BK185.out) Try.underlying67 rfl (by kernel_rfl)) rfl ?_
             exact ⟨by first | rfl | (simp only [wrap_wrap]; done) | (simp only [wrap_wrap]; rfl) | (simp [qah, qai] <;> rfl) | (simp [*, qah, qai] <;> rfl), by repeat (first | (with_reducible first | exact HB.out | apply qa6 | apply qa7 | apply qa8 | refine qa9 ?_ GE185.out) | exact HB.out)⟩
  ·rw [if_neg c6] at H
   exact absurd H (by simp)
 ·rw [if_neg c5] at H
  exact absurd H (by simp)
end Go.Proofs.Ytcmipoicnonaeaa.F
end
