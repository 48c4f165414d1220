/- Texts of this claim, 13 of 29: F65, F63, F52. -/
import Derived.StillTailTactics
import Derived.StillTactics
import Derived.Test.YtcmipoicnonaeaaKS7
section
namespace Go.Proofs.Ytcmipoicnonaeaa.F
open Go.RowKit Go.Proofs.YtcmipoicnonaeaaW.PrintWords Go.Proofs.YtcmipoicnonaeaaW.PrintLast Go.Proofs.YtcmipoicnonaeaaW.PrintMore
set_option linter.unusedVariables false
set_option linter.unusedSimpArgs false
set_option maxHeartbeats 1000000 in
theorem qgc (x y : Int) (w : World) : Calls Try.prog 66 #[.int .u64 x, .int .u64 y] w fun e w' => e = .returned (.int .u64 (Go.bits .xor .u64 (-1) x)) ∧ w' = w := by
 go_enter Try.func66, Try.ntmps66
 go_wp2
 go_ret
 exact ⟨rfl, rfl⟩
set_option maxHeartbeats 1000000 in
theorem qhc (x y : Int) (w : World) : Calls Try.prog 73 #[.int .u64 x, .int .u64 y] w fun e w' => e = .returned (.int .u64 (Go.bits .or .u64 x y)) ∧ w' = w := by
 go_enter Try.func73, Try.ntmps73
 go_wp2
 go_ret
 exact ⟨rfl, rfl⟩
def upTo (i k : Nat) (x : Int) : Int := if k < i then x else 0
set_option maxHeartbeats 4000000 in
set_option maxRecDepth 100000 in
theorem join_not (a0 a1 a2 a3 b0 b1 b2 b3 : Int) (w : World) :
  Calls Try.prog 65 #[.agg #[.int .u64 a0, .int .u64 a1, .int .u64 a2, .int .u64 a3], .agg #[.int .u64 b0, .int .u64 b1, .int .u64 b2, .int .u64 b3], .func (.func 66) #[] #[]] w
   fun e w' => e = .returned (.agg #[.int .u64 (Go.bits .xor .u64 (-1) a0), .int .u64 (Go.bits .xor .u64 (-1) a1), .int .u64 (Go.bits .xor .u64 (-1) a2), .int .u64 (Go.bits .xor .u64 (-1) a3)]) ∧ Below w.heap.size w w' := by
 go_enter Try.func65, Try.ntmps65
 go_wp2
 have HW : ∀ W : World, W = (((w.alloc (.cells #[.int .u64 a0, .int .u64 a1, .int .u64 a2, .int .u64 a3] 24 (0, 0))).alloc (.cells #[.int .u64 b0, .int .u64 b1, .int .u64 b2, .int .u64 b3] 24 (0, 0))).alloc (.cells #[.int .u64 0, .int .u64 0, .int .u64 0, .int .u64 0] 24 (0, 0))).alloc (.cells #[.int .u64 0, .int .u64 0, .int .u64 0, .int .u64 0] 24 (0, 0)) → Below w.heap.size w W ∧ W.heap[w.heap.size]? = some (.cells #[.int .u64 a0, .int .u64 a1, .int .u64 a2, .int .u64 a3] 24 (0, 0)) ∧ W.heap[w.heap.size + 1]? = some (.cells #[.int .u64 b0, .int .u64 b1, .int .u64 b2, .int .u64 b3] 24 (0, 0)) ∧ W.heap[w.heap.size + 2]? = some (.cells #[.int .u64 0, .int .u64 0, .int .u64 0, .int .u64 0] 24 (0, 0)) ∧ W.heap[w.heap.size + 3]? = some (.cells #[.int .u64 0, .int .u64 0, .int .u64 0, .int .u64 0] 24 (0, 0)) := by
  rintro W rfl
  refine ⟨qa6 (qa6 (qa6 (qa6 (Below.refl _ _) _) _) _) _, qa3 (qa3 (qa3 (qat w _) _) _) _, qa3 (qa3 ?_ _) _, qa3 ?_ _, ?_⟩
  ·rw [← World.size_alloc (w := w)]; exact qat _ _
  ·rw [show w.heap.size + 2 = (w.heap.size + 1) + 1 from rfl, ← World.size_alloc (w := w), ← World.size_alloc]; exact qat _ _
  ·rw [show w.heap.size + 3 = ((w.heap.size + 1) + 1) + 1 from rfl, ← World.size_alloc (w := w), ← World.size_alloc, ← World.size_alloc]; exact qat _ _
 have HX := qa0.mk (HW _ rfl)
 clear HW
 go_loopg [9] 4 (fun gk v9 wr => ∃ i : Nat, v9 = .int .i64 (i : Int) ∧ i + gk = 4 ∧ qa0 (Below w.heap.size w wr ∧ wr.heap[w.heap.size]? = some (.cells #[.int .u64 a0, .int .u64 a1, .int .u64 a2, .int .u64 a3] 24 (0, 0)) ∧ wr.heap[w.heap.size + 1]? = some (.cells #[.int .u64 b0, .int .u64 b1, .int .u64 b2, .int .u64 b3] 24 (0, 0)) ∧ wr.heap[w.heap.size + 2]? = some (.cells #[.int .u64 0, .int .u64 0, .int .u64 0, .int .u64 0] 24 (0, 0)) ∧ wr.heap[w.heap.size + 3]? = some (.cells #[.int .u64 (upTo i 0 (Go.bits .xor .u64 (-1) a0)), .int .u64 (upTo i 1 (Go.bits .xor .u64 (-1) a1)), .int .u64 (upTo i 2 (Go.bits .xor .u64 (-1) a2)), .int .u64 (upTo i 3 (Go.bits .xor .u64 (-1) a3))] 24 (0, 0))))
 case atStart => exact ⟨0, rfl, rfl, HX⟩
 case round =>
  clear HX
  obtain ⟨i, rfl, hi, HX⟩ := hrel
  have q0 : _ = some (Value.int .u64 _) := (qa2 HX.out.2.2.2.2 0).trans rfl
  have q1 : _ = some (Value.int .u64 _) := (qa2 HX.out.2.2.2.2 1).trans rfl
  have q2 : _ = some (Value.int .u64 _) := (qa2 HX.out.2.2.2.2 2).trans rfl
  have q3 : _ = some (Value.int .u64 _) := (qa2 HX.out.2.2.2.2 3).trans rfl
  have p0 : _ = some (Value.int .u64 0) := (qa2 HX.out.2.2.2.1 0).trans rfl
  have p1 : _ = some (Value.int .u64 0) := (qa2 HX.out.2.2.2.1 1).trans rfl
  have p2 : _ = some (Value.int .u64 0) := (qa2 HX.out.2.2.2.1 2).trans rfl
  have p3 : _ = some (Value.int .u64 0) := (qa2 HX.out.2.2.2.1 3).trans rfl
  have r0 : _ = some (Value.int .u64 a0) := (qa2 HX.out.2.1 0).trans rfl
  have r1 : _ = some (Value.int .u64 a1) := (qa2 HX.out.2.1 1).trans rfl
  have r2 : _ = some (Value.int .u64 a2) := (qa2 HX.out.2.1 2).trans rfl
  have r3 : _ = some (Value.int .u64 a3) := (qa2 HX.out.2.1 3).trans rfl
  have s0 : _ = some (Value.int .u64 b0) := (qa2 HX.out.2.2.1 0).trans rfl
  have s1 : _ = some (Value.int .u64 b1) := (qa2 HX.out.2.2.1 1).trans rfl
  have s2 : _ = some (Value.int .u64 b2) := (qa2 HX.out.2.2.1 2).trans rfl
  have s3 : _ = some (Value.int .u64 b3) := (qa2 HX.out.2.2.1 3).trans rfl
  have f0 := qa1 HX.out.2.2.2.1 0
  have f1 := qa1 HX.out.2.2.2.1 1
  have f2 := qa1 HX.out.2.2.2.1 2
  have f3 := qa1 HX.out.2.2.2.1 3
  have g0 := qa1 HX.out.2.2.2.2 0
  have g1 := qa1 HX.out.2.2.2.2 1
  have g2 := qa1 HX.out.2.2.2.2 2
  have g3 := qa1 HX.out.2.2.2.2 3
  cases gk with
  | zero =>
   obtain rfl : i = 4 := by omega
   clear hi
   simp only [upTo, show (0 : Nat) < 4 from by decide, show (1 : Nat) < 4 from by decide, show (2 : Nat) < 4 from by decide, show (3 : Nat) < 4 from by decide, if_true] at q0 q1 q2 q3
   go_wp2
   refine bodyPost_ret (qc9 rfl (.cell (w.heap.size + 2) _ _ (0, 0) _ rfl (set4 HX.out.2.2.2.1 _ _ _ _) Try.underlying24 rfl (by kernel_rfl) .nil)) rfl ?_
   exact ⟨rfl, qdm HX.out.1 (by omega)⟩
  | succ gk =>
   rcases (by omega : i = 0 ∨ i = 1 ∨ i = 2 ∨ i = 3) with rfl | rfl | rfl | rfl
   ·have HG := qa0.mk hi
    clear hi
    go_wp2
    go_still_tail 10, (by kernel_rfl)
    still_call (qgc _ _ _)
    repeat still_step
    refine wpStill_nil ?_
    change wpList _ _ _ _ _ (World.drew _)
    go_wp2
    go_roundg gk
    case rel => exact ⟨1, rfl, by have := HG.out; omega, ⟨qa8 (qa9 HX.out.1 (by omega)), qa5 (qaj HX.out.2.1 (by show _ ≠ (w.heap.size + 1 + 1 + 1); omega) _), qa5 (qaj HX.out.2.2.1 (by show _ ≠ (w.heap.size + 1 + 1 + 1); omega) _), qa5 (qaj HX.out.2.2.2.1 (by show _ ≠ (w.heap.size + 1 + 1 + 1); omega) _), qa5 (by have hb := qcv HX.out.2.2.2.2 0 (.int .u64 (Go.bits .xor .u64 (-1) a0)); simpa [upTo] using hb)⟩⟩
    case measure => omega
   ·have HG := qa0.mk hi
    clear hi
    go_wp2
    go_still_tail 10, (by kernel_rfl)
    still_call (qgc _ _ _)
    repeat still_step
    refine wpStill_nil ?_
    change wpList _ _ _ _ _ (World.drew _)
    go_wp2
    go_roundg gk
    case rel => exact ⟨2, rfl, by have := HG.out; omega, ⟨qa8 (qa9 HX.out.1 (by omega)), qa5 (qaj HX.out.2.1 (by show _ ≠ (w.heap.size + 1 + 1 + 1); omega) _), qa5 (qaj HX.out.2.2.1 (by show _ ≠ (w.heap.size + 1 + 1 + 1); omega) _), qa5 (qaj HX.out.2.2.2.1 (by show _ ≠ (w.heap.size + 1 + 1 + 1); omega) _), qa5 (by have hb := qcv HX.out.2.2.2.2 1 (.int .u64 (Go.bits .xor .u64 (-1) a1)); simpa [upTo] using hb)⟩⟩
    case measure => omega
   ·have HG := qa0.mk hi
    clear hi
    go_wp2
    go_still_tail 10, (by kernel_rfl)
    still_call (qgc _ _ _)
    repeat still_step
    refine wpStill_nil ?_
    change wpList _ _ _ _ _ (World.drew _)
    go_wp2
    go_roundg gk
    case rel => exact ⟨3, rfl, by have := HG.out; omega, ⟨qa8 (qa9 HX.out.1 (by omega)), qa5 (qaj HX.out.2.1 (by show _ ≠ (w.heap.size + 1 + 1 + 1); omega) _), qa5 (qaj HX.out.2.2.1 (by show _ ≠ (w.heap.size + 1 + 1 + 1); omega) _), qa5 (qaj HX.out.2.2.2.1 (by show _ ≠ (w.heap.size + 1 + 1 + 1); omega) _), qa5 (by have hb := qcv HX.out.2.2.2.2 2 (.int .u64 (Go.bits .xor .u64 (-1) a2)); simpa [upTo] using hb)⟩⟩
    case measure => omega
   ·have HG := qa0.mk hi
    clear hi
    go_wp2
    go_still_tail 10, (by kernel_rfl)
    still_call (qgc _ _ _)
    repeat still_step
    refine wpStill_nil ?_
    change wpList _ _ _ _ _ (World.drew _)
    go_wp2
    go_roundg gk
    case rel => exact ⟨4, rfl, by have := HG.out; omega, ⟨qa8 (qa9 HX.out.1 (by omega)), qa5 (qaj HX.out.2.1 (by show _ ≠ (w.heap.size + 1 + 1 + 1); omega) _), qa5 (qaj HX.out.2.2.1 (by show _ ≠ (w.heap.size + 1 + 1 + 1); omega) _), qa5 (qaj HX.out.2.2.2.1 (by show _ ≠ (w.heap.size + 1 + 1 + 1); omega) _), qa5 (by have hb := qcv HX.out.2.2.2.2 3 (.int .u64 (Go.bits .xor .u64 (-1) a3)); simpa [upTo] using hb)⟩⟩
    case measure => omega
set_option maxHeartbeats 4000000 in
set_option maxRecDepth 100000 in
theorem join_or (a0 a1 a2 a3 b0 b1 b2 b3 : Int) (w : World) :
  Calls Try.prog 65 #[.agg #[.int .u64 a0, .int .u64 a1, .int .u64 a2, .int .u64 a3], .agg #[.int .u64 b0, .int .u64 b1, .int .u64 b2, .int .u64 b3], .func (.func 73) #[] #[]] w
   fun e w' => e = .returned (.agg #[.int .u64 (Go.bits .or .u64 a0 b0), .int .u64 (Go.bits .or .u64 a1 b1), .int .u64 (Go.bits .or .u64 a2 b2), .int .u64 (Go.bits .or .u64 a3 b3)]) ∧ Below w.heap.size w w' := by
 go_enter Try.func65, Try.ntmps65
 go_wp2
 have HW : ∀ W : World, W = (((w.alloc (.cells #[.int .u64 a0, .int .u64 a1, .int .u64 a2, .int .u64 a3] 24 (0, 0))).alloc (.cells #[.int .u64 b0, .int .u64 b1, .int .u64 b2, .int .u64 b3] 24 (0, 0))).alloc (.cells #[.int .u64 0, .int .u64 0, .int .u64 0, .int .u64 0] 24 (0, 0))).alloc (.cells #[.int .u64 0, .int .u64 0, .int .u64 0, .int .u64 0] 24 (0, 0)) → Below w.heap.size w W ∧ W.heap[w.heap.size]? = some (.cells #[.int .u64 a0, .int .u64 a1, .int .u64 a2, .int .u64 a3] 24 (0, 0)) ∧ W.heap[w.heap.size + 1]? = some (.cells #[.int .u64 b0, .int .u64 b1, .int .u64 b2, .int .u64 b3] 24 (0, 0)) ∧ W.heap[w.heap.size + 2]? = some (.cells #[.int .u64 0, .int .u64 0, .int .u64 0, .int .u64 0] 24 (0, 0)) ∧ W.heap[w.heap.size + 3]? = some (.cells #[.int .u64 0, .int .u64 0, .int .u64 0, .int .u64 0] 24 (0, 0)) := by
  rintro W rfl
  refine ⟨qa6 (qa6 (qa6 (qa6 (Below.refl _ _) _) _) _) _, qa3 (qa3 (qa3 (qat w _) _) _) _, qa3 (qa3 ?_ _) _, qa3 ?_ _, ?_⟩
  ·rw [← World.size_alloc (w := w)]; exact qat _ _
  ·rw [show w.heap.size + 2 = (w.heap.size + 1) + 1 from rfl, ← World.size_alloc (w := w), ← World.size_alloc]; exact qat _ _
  ·rw [show w.heap.size + 3 = ((w.heap.size + 1) + 1) + 1 from rfl, ← World.size_alloc (w := w), ← World.size_alloc, ← World.size_alloc]; exact qat _ _
 have HX := qa0.mk (HW _ rfl)
 clear HW
 go_loopg [9] 4 (fun gk v9 wr => ∃ i : Nat, v9 = .int .i64 (i : Int) ∧ i + gk = 4 ∧ qa0 (Below w.heap.size w wr ∧ wr.heap[w.heap.size]? = some (.cells #[.int .u64 a0, .int .u64 a1, .int .u64 a2, .int .u64 a3] 24 (0, 0)) ∧ wr.heap[w.heap.size + 1]? = some (.cells #[.int .u64 b0, .int .u64 b1, .int .u64 b2, .int .u64 b3] 24 (0, 0)) ∧ wr.heap[w.heap.size + 2]? = some (.cells #[.int .u64 0, .int .u64 0, .int .u64 0, .int .u64 0] 24 (0, 0)) ∧ wr.heap[w.heap.size + 3]? = some (.cells #[.int .u64 (upTo i 0 (Go.bits .or .u64 a0 b0)), .int .u64 (upTo i 1 (Go.bits .or .u64 a1 b1)), .int .u64 (upTo i 2 (Go.bits .or .u64 a2 b2)), .int .u64 (upTo i 3 (Go.bits .or .u64 a3 b3))] 24 (0, 0))))
 case atStart => exact ⟨0, rfl, rfl, HX⟩
 case round =>
  clear HX
  obtain ⟨i, rfl, hi, HX⟩ := hrel
  have q0 : _ = some (Value.int .u64 _) := (qa2 HX.out.2.2.2.2 0).trans rfl
  have q1 : _ = some (Value.int .u64 _) := (qa2 HX.out.2.2.2.2 1).trans rfl
  have q2 : _ = some (Value.int .u64 _) := (qa2 HX.out.2.2.2.2 2).trans rfl
  have q3 : _ = some (Value.int .u64 _) := (qa2 HX.out.2.2.2.2 3).trans rfl
  have p0 : _ = some (Value.int .u64 0) := (qa2 HX.out.2.2.2.1 0).trans rfl
  have p1 : _ = some (Value.int .u64 0) := (qa2 HX.out.2.2.2.1 1).trans rfl
  have p2 : _ = some (Value.int .u64 0) := (qa2 HX.out.2.2.2.1 2).trans rfl
  have p3 : _ = some (Value.int .u64 0) := (qa2 HX.out.2.2.2.1 3).trans rfl
  have r0 : _ = some (Value.int .u64 a0) := (qa2 HX.out.2.1 0).trans rfl
  have r1 : _ = some (Value.int .u64 a1) := (qa2 HX.out.2.1 1).trans rfl
  have r2 : _ = some (Value.int .u64 a2) := (qa2 HX.out.2.1 2).trans rfl
  have r3 : _ = some (Value.int .u64 a3) := (qa2 HX.out.2.1 3).trans rfl
  have s0 : _ = some (Value.int .u64 b0) := (qa2 HX.out.2.2.1 0).trans rfl
  have s1 : _ = some (Value.int .u64 b1) := (qa2 HX.out.2.2.1 1).trans rfl
  have s2 : _ = some (Value.int .u64 b2) := (qa2 HX.out.2.2.1 2).trans rfl
  have s3 : _ = some (Value.int .u64 b3) := (qa2 HX.out.2.2.1 3).trans rfl
  have f0 := qa1 HX.out.2.2.2.1 0
  have f1 := qa1 HX.out.2.2.2.1 1
  have f2 := qa1 HX.out.2.2.2.1 2
  have f3 := qa1 HX.out.2.2.2.1 3
  have g0 := qa1 HX.out.2.2.2.2 0
  have g1 := qa1 HX.out.2.2.2.2 1
  have g2 := qa1 HX.out.2.2.2.2 2
  have g3 := qa1 HX.out.2.2.2.2 3
  cases gk with
  | zero =>
   obtain rfl : i = 4 := by omega
   clear hi
   simp only [upTo, show (0 : Nat) < 4 from by decide, show (1 : Nat) < 4 from by decide, show (2 : Nat) < 4 from by decide, show (3 : Nat) < 4 from by decide, if_true] at q0 q1 q2 q3
   go_wp2
   refine bodyPost_ret (qc9 rfl (.cell (w.heap.size + 2) _ _ (0, 0) _ rfl (set4 HX.out.2.2.2.1 _ _ _ _) Try.underlying24 rfl (by kernel_rfl) .nil)) rfl ?_
   exact ⟨rfl, qdm HX.out.1 (by omega)⟩
  | succ gk =>
   rcases (by omega : i = 0 ∨ i = 1 ∨ i = 2 ∨ i = 3) with rfl | rfl | rfl | rfl
   ·have HG := qa0.mk hi
    clear hi
    go_wp2
    go_still_tail 10, (by kernel_rfl)
    still_call (qhc _ _ _)
    repeat still_step
    refine wpStill_nil ?_
    change wpList _ _ _ _ _ (World.drew _)
    go_wp2
    go_roundg gk
    case rel => exact ⟨1, rfl, by have := HG.out; omega, ⟨qa8 (qa9 HX.out.1 (by omega)), qa5 (qaj HX.out.2.1 (by show _ ≠ (w.heap.size + 1 + 1 + 1); omega) _), qa5 (qaj HX.out.2.2.1 (by show _ ≠ (w.heap.size + 1 + 1 + 1); omega) _), qa5 (qaj HX.out.2.2.2.1 (by show _ ≠ (w.heap.size + 1 + 1 + 1); omega) _), qa5 (by have hb := qcv HX.out.2.2.2.2 0 (.int .u64 (Go.bits .or .u64 a0 b0)); simpa [upTo] using hb)⟩⟩
    case measure => omega
   ·have HG := qa0.mk hi
    clear hi
    go_wp2
    go_still_tail 10, (by kernel_rfl)
    still_call (qhc _ _ _)
    repeat still_step
    refine wpStill_nil ?_
    change wpList _ _ _ _ _ (World.drew _)
    go_wp2
    go_roundg gk
    case rel => exact ⟨2, rfl, by have := HG.out; omega, ⟨qa8 (qa9 HX.out.1 (by omega)), qa5 (qaj HX.out.2.1 (by show _ ≠ (w.heap.size + 1 + 1 + 1); omega) _), qa5 (qaj HX.out.2.2.1 (by show _ ≠ (w.heap.size + 1 + 1 + 1); omega) _), qa5 (qaj HX.out.2.2.2.1 (by show _ ≠ (w.heap.size + 1 + 1 + 1); omega) _), qa5 (by have hb := qcv HX.out.2.2.2.2 1 (.int .u64 (Go.bits .or .u64 a1 b1)); simpa [upTo] using hb)⟩⟩
    case measure => omega
   ·have HG := qa0.mk hi
    clear hi
    go_wp2
    go_still_tail 10, (by kernel_rfl)
    still_call (qhc _ _ _)
    repeat still_step
    refine wpStill_nil ?_
    change wpList _ _ _ _ _ (World.drew _)
    go_wp2
    go_roundg gk
    case rel => exact ⟨3, rfl, by have := HG.out; omega, ⟨qa8 (qa9 HX.out.1 (by omega)), qa5 (qaj HX.out.2.1 (by show _ ≠ (w.heap.size + 1 + 1 + 1); omega) _), qa5 (qaj HX.out.2.2.1 (by show _ ≠ (w.heap.size + 1 + 1 + 1); omega) _), qa5 (qaj HX.out.2.2.2.1 (by show _ ≠ (w.heap.size + 1 + 1 + 1); omega) _), qa5 (by have hb := qcv HX.out.2.2.2.2 2 (.int .u64 (Go.bits .or .u64 a2 b2)); simpa [upTo] using hb)⟩⟩
    case measure => omega
   ·have HG := qa0.mk hi
    clear hi
    go_wp2
    go_still_tail 10, (by kernel_rfl)
    still_call (qhc _ _ _)
    repeat still_step
    refine wpStill_nil ?_
    change wpList _ _ _ _ _ (World.drew _)
    go_wp2
    go_roundg gk
    case rel => exact ⟨4, rfl, by have := HG.out; omega, ⟨qa8 (qa9 HX.out.1 (by omega)), qa5 (qaj HX.out.2.1 (by show _ ≠ (w.heap.size + 1 + 1 + 1); omega) _), qa5 (qaj HX.out.2.2.1 (by show _ ≠ (w.heap.size + 1 + 1 + 1); omega) _), qa5 (qaj HX.out.2.2.2.1 (by show _ ≠ (w.heap.size + 1 + 1 + 1); omega) _), qa5 (by have hb := qcv HX.out.2.2.2.2 3 (.int .u64 (Go.bits .or .u64 a3 b3)); simpa [upTo] using hb)⟩⟩
    case measure => omega
end Go.Proofs.Ytcmipoicnonaeaa.F
end
section
namespace Go.Proofs.Ytcmipoicnonaeaa.F
open Go.RowKit Go.Proofs.YtcmipoicnonaeaaW.PrintWords Go.Proofs.YtcmipoicnonaeaaW.PrintLast Go.Proofs.YtcmipoicnonaeaaW.PrintMore
set_option linter.unusedVariables false
set_option linter.unusedSimpArgs false
def qhd.f (a0_0 a0_1 a0_2 a0_3 a1_0 a1_1 a1_2 a1_3 : Int) : Option (Int × Int × Int × Int) := some (Go.bits .or .u64 a0_0 a1_0, Go.bits .or .u64 a0_1 a1_1, Go.bits .or .u64 a0_2 a1_2, Go.bits .or .u64 a0_3 a1_3)
set_option maxHeartbeats 2000000 in
set_option maxRecDepth 100000 in
theorem qhd.calls (a0_0 a0_1 a0_2 a0_3 a1_0 a1_1 a1_2 a1_3 : Int) (r1 r2 r3 r4 : Int) (w : World) (h : qhd.f a0_0 a0_1 a0_2 a0_3 a1_0 a1_1 a1_2 a1_3 = some (r1, r2, r3, r4)) :
    Calls Try.prog 63 #[.agg #[.int .u64 a0_0, .int .u64 a0_1, .int .u64 a0_2, .int .u64 a0_3], .agg #[.int .u64 a1_0, .int .u64 a1_1, .int .u64 a1_2, .int .u64 a1_3]] w fun e w' => e = .returned (.agg #[.int .u64 r1, .int .u64 r2, .int .u64 r3, .int .u64 r4]) ∧ Below w.heap.size w w' := by
  unfold qhd.f at h
  simp only [Option.some.injEq, Prod.mk.injEq] at h
  obtain ⟨rfl, rfl, rfl, rfl⟩ := h
  go_enter Try.func63, Try.ntmps63
  go_wp2_with (go_at_call 65; refine (join_or _ _ _ _ _ _ _ _ _).mono ?_; rintro e w' ⟨rfl, hb⟩; have hz : w'.heap[w.heap.size + 1 + 1]? = some (.cells #[.int .u64 0, .int .u64 0, .int .u64 0, .int .u64 0] 24 (0, 0)) := qae (by rw [← World.size_alloc (w := w), ← World.size_alloc]; exact qat _ _) hb; have HZ := qa0.mk hz; have hb2 : Below w.heap.size w w' := qap (qa6 (qa6 (qa6 (Below.refl _ _) _) _) _) hb; have HB := qa0.mk hb2; have p0 : _ = some (Value.int .u64 0) := (qa2 hz 0).trans rfl; have p1 : _ = some (Value.int .u64 0) := (qa2 hz 1).trans rfl; have p2 : _ = some (Value.int .u64 0) := (qa2 hz 2).trans rfl; have p3 : _ = some (Value.int .u64 0) := (qa2 hz 3).trans rfl; have f0 := qa1 hz 0; have f1 := qa1 hz 1; have f2 := qa1 hz 2; have f3 := qa1 hz 3; clear hz hb hb2)
  refine bodyPost_ret (qc9 rfl (.cell (w.heap.size + 1 + 1) _ _ (0, 0) _ rfl (set4 HZ.out _ _ _ _) Try.underlying24 rfl (by kernel_rfl) .nil)) rfl ?_
  exact ⟨rfl, qdm HB.out (by omega)⟩
end Go.Proofs.Ytcmipoicnonaeaa.F
end
section
namespace Go.Proofs.Ytcmipoicnonaeaa.F
open Go.RowKit Go.Proofs.YtcmipoicnonaeaaW.PrintWords Go.Proofs.YtcmipoicnonaeaaW.PrintLast Go.Proofs.YtcmipoicnonaeaaW.PrintMore
set_option linter.unusedVariables false
set_option linter.unusedSimpArgs false
def qeb.f (a0_0 a0_1 a0_2 a0_3 : Int) : Option (Int × Int × Int × Int) := some (Go.bits .xor .u64 (-1) a0_0, Go.bits .xor .u64 (-1) a0_1, Go.bits .xor .u64 (-1) a0_2, Go.bits .xor .u64 (-1) a0_3)
set_option maxHeartbeats 2000000 in
set_option maxRecDepth 100000 in
theorem qeb.calls (a0_0 a0_1 a0_2 a0_3 : Int) (r1 r2 r3 r4 : Int) (w : World) (h : qeb.f a0_0 a0_1 a0_2 a0_3 = some (r1, r2, r3, r4)) :
    Calls Try.prog 52 #[.agg #[.int .u64 a0_0, .int .u64 a0_1, .int .u64 a0_2, .int .u64 a0_3]] w fun e w' => e = .returned (.agg #[.int .u64 r1, .int .u64 r2, .int .u64 r3, .int .u64 r4]) ∧ Below w.heap.size w w' := by
  unfold qeb.f at h
  simp only [Option.some.injEq, Prod.mk.injEq] at h
  obtain ⟨rfl, rfl, rfl, rfl⟩ := h
  go_enter Try.func52, Try.ntmps52
  go_wp2_with (go_at_call 65; refine (join_not _ _ _ _ _ _ _ _ _).mono ?_; rintro e w' ⟨rfl, hb⟩; have hz : w'.heap[w.heap.size + 1]? = some (.cells #[.int .u64 0, .int .u64 0, .int .u64 0, .int .u64 0] 24 (0, 0)) := qae (by rw [← World.size_alloc (w := w)]; exact qat _ _) hb; have HZ := qa0.mk hz; have hb2 : Below w.heap.size w w' := qap (qa6 (qa6 (Below.refl _ _) _) _) hb; have HB := qa0.mk hb2; have p0 : _ = some (Value.int .u64 0) := (qa2 hz 0).trans rfl; have p1 : _ = some (Value.int .u64 0) := (qa2 hz 1).trans rfl; have p2 : _ = some (Value.int .u64 0) := (qa2 hz 2).trans rfl; have p3 : _ = some (Value.int .u64 0) := (qa2 hz 3).trans rfl; have f0 := qa1 hz 0; have f1 := qa1 hz 1; have f2 := qa1 hz 2; have f3 := qa1 hz 3; clear hz hb hb2)
  refine bodyPost_ret (qc9 rfl (.cell (w.heap.size + 1) _ _ (0, 0) _ rfl (set4 HZ.out _ _ _ _) Try.underlying24 rfl (by kernel_rfl) .nil)) rfl ?_
  exact ⟨rfl, qdm HB.out (by omega)⟩
end Go.Proofs.Ytcmipoicnonaeaa.F
end
