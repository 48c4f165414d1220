/- Texts of this claim, 16 of 29: F32, F25, BreGrow, F27, F34. -/
import Derived.RangeFuncBox
import Derived.RangeFuncLeaves
import Derived.Shelf.Abstract
import Derived.WalkKit
import Derived.OwnWalkIn
import Derived.TacticsInMore
import Derived.LoopNIn
import Derived.LoopIn
import Derived.Test.YtcmipoicnonaeaaKS7
import Derived.Test.YtcmipoicnonaeaaKS15
section
namespace Go.Proofs.Ytcmipoicnonaeaa.F
open Go.RowKit Go.Shelf Go.Proofs.YtcmipoicnonaeaaW.PrintWords
set_option linter.unusedVariables false
set_option linter.unusedSimpArgs false
structure Tok where
 k : Int
 a : Int
 s0 : Int
 s1 : Int
 s2 : Int
 s3 : Int
 lo : Int
 hi : Int
 e : Int
def Tok.cells (t : Tok) : Array Value := #[.int .i64 t.k, .int .i64 t.a, .int .u64 t.s0, .int .u64 t.s1, .int .u64 t.s2, .int .u64 t.s3, .int .i64 t.lo, .int .i64 t.hi, .int .i64 t.e]
def tokL (k : Nat) (s : ByteArray) : Nat → Int → Bool → Bool → Option (List Tok)
 | 0, _, _, _ => none
 | n + 1, i, f, b => if i < (s.size : Int) then
   (qb9.f k s i f b).bind fun r =>
    if r.1 = 7 then some [⟨r.1, r.2.1, r.2.2.1, r.2.2.2.1, r.2.2.2.2.1, r.2.2.2.2.2.1, r.2.2.2.2.2.2.1, r.2.2.2.2.2.2.2.1, r.2.2.2.2.2.2.2.2.1⟩]
    else if i < r.2.2.2.2.2.2.2.2.2 then (tokL k s n r.2.2.2.2.2.2.2.2.2 (r.1 == 3) (r.1 == 3 || r.1 == 1)).map (fun l => ⟨r.1, r.2.1, r.2.2.1, r.2.2.2.1, r.2.2.2.2.1, r.2.2.2.2.2.1, r.2.2.2.2.2.2.1, r.2.2.2.2.2.2.2.1, r.2.2.2.2.2.2.2.2.1⟩ :: l) else none
  else some []
def Kp67 (W W' : World) : Prop := ∀ (k : Nat) (c : Array Value), W.heap[k]? = some (.cells c 67 (0, 0)) → W'.heap[k]? = some (.cells c 67 (0, 0))
attribute [local go_sem] Oper.semAt_some
set_option maxHeartbeats 4000000 in
set_option maxRecDepth 100000 in
theorem tokens1_in (n : Nat) (hn : 1 ≤ n) (l Bn : Nat) (s : ByteArray) (k : Nat) (L : List Tok) (J Jx : List Tok → World → Prop)
  (hJs : ∀ pre W, J pre W → W.heap[Bn]? = some (.cells #[.string s] 9 (0, 0)) ∧ ML W)
  (hJb : ∀ pre W W', J pre W → Below W.heap.size W W' → J pre W')
  (hY : ∀ pre x W, pre ++ [x] <+: L → J pre W → YieldAt Fence.wide (n - 1) Try.prog l #[.agg x.cells] W fun e W' =>
   (e = .returned (.bool true) ∧ J (pre ++ [x]) W' ∧ Kp67 W W') ∨ (e = .returned (.bool false) ∧ Jx (pre ++ [x]) W'))
  (W : World) (N : Nat) (hL : tokL k s N 0 true true = some L) (h0 : J [] W) :
  CallsIn Fence.wide n Try.prog 32 #[.func (.yield l) #[] #[], .pointer (some ⟨Bn, 0, none⟩)] W fun e W' => (∃ v, e = .returned v) ∧ (J L W' ∨ ∃ pre, pre <+: L ∧ Jx pre W') := by
 have hu := Try.underlying67
 have huS := Try.underlying24
 refine callsIn_of_wp Try.func32 rfl trivial ?_ rfl
 simp only [Try.ntmps32, List.size_toArray, List.length_cons, List.length_nil, Nat.reduceAdd, Nat.reduceSub, Array.replicate_succ, Array.replicate_zero, List.push_toArray, List.append_toArray, List.nil_append, List.cons_append]
 gi_wp2
 gi_loopw [3, 4, 5] (fun vf vb vi wr => ∃ (m : Nat) (f b : Bool) (i : Int) (pre rest : List Tok), vf = .bool f ∧ vb = .bool b ∧ vi = .int .i64 i ∧ tokL k s m i f b = some rest ∧ pre ++ rest = L ∧ J pre wr)
  (fun _ _ vi _ => ((s.size : Int) - intOf vi).toNat)
 case atStart => exact ⟨N, true, true, 0, [], L, rfl, rfl, rfl, hL, rfl, h0⟩
 case round =>
  clear h0 hL
  obtain ⟨m, f, b, i, pre, rest, rfl, rfl, rfl, hT, hP, hJ⟩ := hrel
  obtain ⟨hs, hml⟩ := hJs _ _ hJ
  have kb : wr.cell? ⟨Bn, 0, none⟩ = some (.string s) := (qa2 hs 0).trans rfl
  match m, hT with
  | m + 1, hT =>
  rw [tokL] at hT
  by_cases ci : i < (s.size : Int)
  rotate_left
  ·rw [if_neg ci] at hT
   cases hT
   rw [List.append_nil] at hP
   subst hP
   have hci : decide (i < (s.size : Int)) = false := decide_eq_false ci
   gi_wp2
   go_end0
   exact ⟨⟨_, rfl⟩, .inl hJ⟩
  ·rw [if_pos ci] at hT
   have hci : decide (i < (s.size : Int)) = true := decide_eq_true ci
   match hr : qb9.f k s i f b, hT with
   | some (r1, r2, r3, r4, r5, r6, r7, r8, r9, r10), hT =>
   rw [Option.bind_some] at hT
   dsimp only at hT
   have HT := qa0.mk hT
   have HP := qa0.mk hP
   have HR := qa0.mk hr
   have HM := qa0.mk hml
   have HJ := qa0.mk hJ
   have HS := qa0.mk hs
   obtain ⟨x, hx⟩ : ∃ x : Tok, x = ⟨r1, r2, r3, r4, r5, r6, r7, r8, r9⟩ := ⟨_, rfl⟩
   have hpx : pre ++ [x] <+: L := by
    rw [hx, ← hP]
    by_cases c7 : r1 = 7
    ·rw [if_pos c7] at hT
     cases hT
     exact ⟨[], by simp⟩
    ·rw [if_neg c7] at hT
     by_cases cn : i < r10
     ·rw [if_pos cn] at hT
      obtain ⟨z, hz, rfl⟩ := Option.map_eq_some_iff.1 hT
      exact ⟨z, by simp⟩
     ·rw [if_neg cn] at hT
      cases hT
   have hY2 := hY pre x
   rw [hx] at hY2
   have HX := qa0.mk hx
   have HPX := qa0.mk hpx
   clear hT hP hr hml hJ hs hx hpx hY ci
   dsimp only [Tok.cells] at hY2
   by_cases c3 : r1 = 3
   ·subst c3
    gi_wp2_with (refine ⟨trivial, ?_⟩; gi_at_call 33; refine (callsIn_wide.2 (qb9.calls k s i f b _ r2 r3 r4 r5 r6 r7 r8 r9 r10 _ HM.out HR.out)).mono ?_; rintro e W1 ⟨rfl, hb1⟩)
    obtain ⟨W2, hW2⟩ : ∃ W2, W1.alloc (Obj.cells #[.int .i64 3, .int .i64 r2, .int .u64 r3, .int .u64 r4, .int .u64 r5, .int .u64 r6, .int .i64 r7, .int .i64 r8, .int .i64 r9] 67) = W2 := ⟨_, rfl⟩
    have hbx : W2.heap[W1.heap.size]? = some (.cells #[.int .i64 3, .int .i64 r2, .int .u64 r3, .int .u64 r4, .int .u64 r5, .int .u64 r6, .int .i64 r7, .int .i64 r8, .int .i64 r9] 67 (0, 0)) := by rw [← hW2]; exact World.alloc_heap_new W1 _
    have hJ2 := hJb _ _ W2 HJ.out (by rw [← hW2]; exact hb1.alloc hb1.size _)
    rw [hW2]
    clear hb1 hW2
    obtain ⟨fn, tmps, assign, body, hy, hR⟩ := hY2 W2 (by have := HPX.out; rw [HX.out] at this; exact this) hJ2
    rw [hy]
    gi_wp2
    clear hy hY2
    refine hR.mono ?_
    rintro e W3 (⟨rfl, hJ3, hkp⟩ | ⟨rfl, hJx3⟩)
    ·have hbx3 := hkp _ _ hbx
     have kb3 : W3.cell? ⟨W1.heap.size, 0, none⟩ = some (.int .i64 3) := (qa2 hbx3 0).trans rfl
     clear hkp hbx hbx3
     have hT := HT.out
     rw [if_neg (by decide)] at hT
     have hn : i < r10 := by
      by_cases cn : i < r10
      ·exact cn
      ·rw [if_neg cn] at hT
       cases hT
     rw [if_pos hn] at hT
     obtain ⟨z, hz, hzr⟩ := Option.map_eq_some_iff.1 hT
     have hP := HP.out
     rw [← hzr] at hP
     have HZ := qa0.mk hz
     have HP3 := qa0.mk hP
     have HN := qa0.mk hn
     clear hT hz hzr hP hn HP HT
     gi_wp2
     go_roundw
     case rel => exact ⟨m, _, _, r10, _, z, rfl, rfl, rfl, HZ.out, by rw [← HP3.out, List.append_assoc]; rfl, hJ3⟩
     case measure => simp only [intOf, Array.getD_eq_getD_getElem?, List.getElem?_toArray, List.getElem?_cons_succ, List.getElem?_cons_zero, Option.getD_some]; have := HN.out; have := of_decide_eq_true hci; omega
    ·gi_wp2
     refine bodyPost_ret (results_none rfl _ _ _) rfl ?_
     exact ⟨⟨_, rfl⟩, .inr ⟨_, (by have := HPX.out; rw [HX.out] at this; exact this), hJx3⟩⟩
   by_cases c7 : r1 = 7
   ·subst c7
    gi_wp2_with (refine ⟨trivial, ?_⟩; gi_at_call 33; refine (callsIn_wide.2 (qb9.calls k s i f b _ r2 r3 r4 r5 r6 r7 r8 r9 r10 _ HM.out HR.out)).mono ?_; rintro e W1 ⟨rfl, hb1⟩)
    obtain ⟨W2, hW2⟩ : ∃ W2, W1.alloc (Obj.cells #[.int .i64 7, .int .i64 r2, .int .u64 r3, .int .u64 r4, .int .u64 r5, .int .u64 r6, .int .i64 r7, .int .i64 r8, .int .i64 r9] 67) = W2 := ⟨_, rfl⟩
    have hbx : W2.heap[W1.heap.size]? = some (.cells #[.int .i64 7, .int .i64 r2, .int .u64 r3, .int .u64 r4, .int .u64 r5, .int .u64 r6, .int .i64 r7, .int .i64 r8, .int .i64 r9] 67 (0, 0)) := by rw [← hW2]; exact World.alloc_heap_new W1 _
    have hJ2 := hJb _ _ W2 HJ.out (by rw [← hW2]; exact hb1.alloc hb1.size _)
    rw [hW2]
    clear hb1 hW2
    obtain ⟨fn, tmps, assign, body, hy, hR⟩ := hY2 W2 (by have := HPX.out; rw [HX.out] at this; exact this) hJ2
    rw [hy]
    gi_wp2
    clear hy hY2
    refine hR.mono ?_
    rintro e W3 (⟨rfl, hJ3, hkp⟩ | ⟨rfl, hJx3⟩)
    ·have hbx3 := hkp _ _ hbx
     have kb3 : W3.cell? ⟨W1.heap.size, 0, none⟩ = some (.int .i64 7) := (qa2 hbx3 0).trans rfl
     clear hkp hbx hbx3
     gi_wp2
     refine bodyPost_ret (results_none rfl _ _ _) rfl ?_
     have hT := HT.out
     rw [if_pos trivial] at hT
     have hP := HP.out
     rw [← Option.some.inj hT] at hP
     exact ⟨⟨_, rfl⟩, .inl (by rw [← hP]; exact hJ3)⟩
    ·gi_wp2
     refine bodyPost_ret (results_none rfl _ _ _) rfl ?_
     exact ⟨⟨_, rfl⟩, .inr ⟨_, (by have := HPX.out; rw [HX.out] at this; exact this), hJx3⟩⟩
   by_cases c1 : r1 = 1
   ·subst c1
    gi_wp2_with (refine ⟨trivial, ?_⟩; gi_at_call 33; refine (callsIn_wide.2 (qb9.calls k s i f b _ r2 r3 r4 r5 r6 r7 r8 r9 r10 _ HM.out HR.out)).mono ?_; rintro e W1 ⟨rfl, hb1⟩)
    obtain ⟨W2, hW2⟩ : ∃ W2, W1.alloc (Obj.cells #[.int .i64 1, .int .i64 r2, .int .u64 r3, .int .u64 r4, .int .u64 r5, .int .u64 r6, .int .i64 r7, .int .i64 r8, .int .i64 r9] 67) = W2 := ⟨_, rfl⟩
    have hbx : W2.heap[W1.heap.size]? = some (.cells #[.int .i64 1, .int .i64 r2, .int .u64 r3, .int .u64 r4, .int .u64 r5, .int .u64 r6, .int .i64 r7, .int .i64 r8, .int .i64 r9] 67 (0, 0)) := by rw [← hW2]; exact World.alloc_heap_new W1 _
    have hJ2 := hJb _ _ W2 HJ.out (by rw [← hW2]; exact hb1.alloc hb1.size _)
    rw [hW2]
    clear hb1 hW2
    obtain ⟨fn, tmps, assign, body, hy, hR⟩ := hY2 W2 (by have := HPX.out; rw [HX.out] at this; exact this) hJ2
    rw [hy]
    gi_wp2
    clear hy hY2
    refine hR.mono ?_
    rintro e W3 (⟨rfl, hJ3, hkp⟩ | ⟨rfl, hJx3⟩)
    ·have hbx3 := hkp _ _ hbx
     have kb3 : W3.cell? ⟨W1.heap.size, 0, none⟩ = some (.int .i64 1) := (qa2 hbx3 0).trans rfl
     clear hkp hbx hbx3
     have hT := HT.out
     rw [if_neg (by decide)] at hT
     have hn : i < r10 := by
      by_cases cn : i < r10
      ·exact cn
      ·rw [if_neg cn] at hT
       cases hT
     rw [if_pos hn] at hT
     obtain ⟨z, hz, hzr⟩ := Option.map_eq_some_iff.1 hT
     have hP := HP.out
     rw [← hzr] at hP
     have HZ := qa0.mk hz
     have HP3 := qa0.mk hP
     have HN := qa0.mk hn
     clear hT hz hzr hP hn HP HT
     gi_wp2
     go_roundw
     case rel => exact ⟨m, _, _, r10, _, z, rfl, rfl, rfl, HZ.out, by rw [← HP3.out, List.append_assoc]; rfl, hJ3⟩
     case measure => simp only [intOf, Array.getD_eq_getD_getElem?, List.getElem?_toArray, List.getElem?_cons_succ, List.getElem?_cons_zero, Option.getD_some]; have := HN.out; have := of_decide_eq_true hci; omega
    ·gi_wp2
     refine bodyPost_ret (results_none rfl _ _ _) rfl ?_
     exact ⟨⟨_, rfl⟩, .inr ⟨_, (by have := HPX.out; rw [HX.out] at this; exact this), hJx3⟩⟩
   ·have d3 : (r1 == 3) = false := beq_eq_false_iff_ne.2 c3
    have d7 : (r1 == 7) = false := beq_eq_false_iff_ne.2 c7
    have d1 : (r1 == 1) = false := beq_eq_false_iff_ne.2 c1
    gi_wp2_with (refine ⟨trivial, ?_⟩; gi_at_call 33; refine (callsIn_wide.2 (qb9.calls k s i f b _ r2 r3 r4 r5 r6 r7 r8 r9 r10 _ HM.out HR.out)).mono ?_; rintro e W1 ⟨rfl, hb1⟩)
    obtain ⟨W2, hW2⟩ : ∃ W2, W1.alloc (Obj.cells #[.int .i64 r1, .int .i64 r2, .int .u64 r3, .int .u64 r4, .int .u64 r5, .int .u64 r6, .int .i64 r7, .int .i64 r8, .int .i64 r9] 67) = W2 := ⟨_, rfl⟩
    have hbx : W2.heap[W1.heap.size]? = some (.cells #[.int .i64 r1, .int .i64 r2, .int .u64 r3, .int .u64 r4, .int .u64 r5, .int .u64 r6, .int .i64 r7, .int .i64 r8, .int .i64 r9] 67 (0, 0)) := by rw [← hW2]; exact World.alloc_heap_new W1 _
    have hJ2 := hJb _ _ W2 HJ.out (by rw [← hW2]; exact hb1.alloc hb1.size _)
    rw [hW2]
    clear hb1 hW2
    obtain ⟨fn, tmps, assign, body, hy, hR⟩ := hY2 W2 (by have := HPX.out; rw [HX.out] at this; exact this) hJ2
    rw [hy]
    gi_wp2
    clear hy hY2
    refine hR.mono ?_
    rintro e W3 (⟨rfl, hJ3, hkp⟩ | ⟨rfl, hJx3⟩)
    ·have hbx3 := hkp _ _ hbx
     have kb3 : W3.cell? ⟨W1.heap.size, 0, none⟩ = some (.int .i64 r1) := (qa2 hbx3 0).trans rfl
     clear hkp hbx hbx3
     have hT := HT.out
     rw [if_neg c7] at hT
     have hn : i < r10 := by
      by_cases cn : i < r10
      ·exact cn
      ·rw [if_neg cn] at hT
       cases hT
     rw [if_pos hn] at hT
     obtain ⟨z, hz, hzr⟩ := Option.map_eq_some_iff.1 hT
     have hP := HP.out
     rw [← hzr] at hP
     have HZ := qa0.mk hz
     have HP3 := qa0.mk hP
     have HN := qa0.mk hn
     clear hT hz hzr hP hn HP HT
     gi_wp2
     go_roundw
     case rel => exact ⟨m, _, _, r10, _, z, rfl, rfl, rfl, (by have := HZ.out; rw [d3, d1] at this; exact this), by rw [← HP3.out, List.append_assoc]; rfl, hJ3⟩
     case measure => simp only [intOf, Array.getD_eq_getD_getElem?, List.getElem?_toArray, List.getElem?_cons_succ, List.getElem?_cons_zero, Option.getD_some]; have := HN.out; have := of_decide_eq_true hci; omega
    ·gi_wp2
     refine bodyPost_ret (results_none rfl _ _ _) rfl ?_
     exact ⟨⟨_, rfl⟩, .inr ⟨_, (by have := HPX.out; rw [HX.out] at this; exact this), hJx3⟩⟩
end Go.Proofs.Ytcmipoicnonaeaa.F
end
section
namespace Go.Proofs.Ytcmipoicnonaeaa.F
open Go.RowKit Go.Proofs.YtcmipoicnonaeaaW.PrintWords Go.Proofs.YtcmipoicnonaeaaW.PrintLast Go.Proofs.YtcmipoicnonaeaaW.PrintMore
set_option linter.unusedVariables false
set_option linter.unusedSimpArgs false
set_option maxHeartbeats 1000000 in
theorem qhx (s : ByteArray) (w : World) :
    Calls Try.prog 25 #[.string s] w fun e w' => e = .returned (.func (.func 32) #[] #[.pointer (some ⟨w.heap.size, 0, none⟩)]) ∧ w' = w.alloc (.cells #[.string s] 9 (0, 0)) := by
  go_enter Try.func25, Try.ntmps25
  go_wp2
  go_ret
  exact ⟨rfl, rfl⟩
end Go.Proofs.Ytcmipoicnonaeaa.F
end
section
namespace Go.Proofs.Ytcmipoicnonaeaa.F
open Go.RowKit Go.Proofs.YtcmipoicnonaeaaW.PrintWords Go.Proofs.YtcmipoicnonaeaaW.PrintLast Go.Proofs.YtcmipoicnonaeaaW.PrintMore
set_option linter.unusedVariables false
set_option linter.unusedSimpArgs false
set_option maxHeartbeats 1000000 in
theorem qiv (base g : Nat) (p : PS) (n : Int) (W : World) (h : IsP base W g p) :
    Calls Try.prog 35 #[.pointer (some ⟨g, 0, none⟩), .int .i64 n] W fun e w' => e = .returned (.int .i64 (if 256 < wrap64 (p.sz + n) then 13 else 0)) ∧ IsP base w' g { p with sz := wrap64 (p.sz + n) } ∧ Bel base W w' := by
  obtain ⟨hb, hc1, hc12, hcs, hfz⟩ := h.cells
  have hf12 := hfz 12
  have HI := qa0.mk h
  have HBs := qa0.mk hb
  clear h hb hcs hfz
  by_cases c : 256 < wrap64 (p.sz + n)
  · have cb : decide (256 < wrap64 (p.sz + n)) = true := decide_eq_true c
    rw [if_pos c]
    go_enter Try.func35, Try.ntmps35
    go_wp2
    go_ret
    exact ⟨rfl, HI.out.set 12 _ rfl HI.out.1 (fun v => Pc_sz v p HI.out.1 _), HI.out.setB 12 _⟩
  · have cb : decide (256 < wrap64 (p.sz + n)) = false := decide_eq_false c
    rw [if_neg c]
    go_enter Try.func35, Try.ntmps35
    go_wp2
    go_ret
    exact ⟨rfl, HI.out.set 12 _ rfl HI.out.1 (fun v => Pc_sz v p HI.out.1 _), HI.out.setB 12 _⟩
theorem qe2 (base g : Nat) (p : PS) (n : Int) (W : World) (h : IsP base W g p) (rv : Int) (hrv : (if 256 < wrap64 (p.sz + n) then (13 : Int) else 0) = rv) :
    Calls Try.prog 35 #[.pointer (some ⟨g, 0, none⟩), .int .i64 n] W fun e w' => e = .returned (.int .i64 rv) ∧ IsP base w' g { p with sz := wrap64 (p.sz + n) } ∧ Bel base W w' := by
  rw [← hrv]
  exact qiv base g p n W h
end Go.Proofs.Ytcmipoicnonaeaa.F
end
section
namespace Go.Proofs.Ytcmipoicnonaeaa.F
open Go.RowKit Go.Proofs.YtcmipoicnonaeaaW.PrintWords Go.Proofs.YtcmipoicnonaeaaW.PrintLast Go.Proofs.YtcmipoicnonaeaaW.PrintMore
set_option linter.unusedVariables false
set_option linter.unusedSimpArgs false
set_option maxHeartbeats 1000000 in
theorem qdd (g F n c : Nat) (W : World) (hc : W.cell? ⟨g, 0, none⟩ = some (.slice (some ⟨F, 0, none⟩) n c)) (hn : 0 < n) (hn2 : n ≤ 1000000) :
    Calls Try.prog 27 #[.pointer (some ⟨g, 0, none⟩)] W fun e w' => e = .returned (.pointer (some ⟨F, (n - 1) * 4, none⟩)) ∧ ∃ m, w' = W.drewN m := by
  obtain ⟨m, hm⟩ : ∃ m : Int, (n : Int) - 1 = m := ⟨_, rfl⟩
  have hmw : IntKind.i64.wrap ((n : Int) - 1) = m := by rw [qbk, qbt (by omega) (by omega)]; exact hm
  have p0 : (0 ≤ m) = True := eq_true (by omega)
  have p1 : (m < (n : Int)) = True := eq_true (by omega)
  have hmt : m.toNat = n - 1 := by omega
  go_enter Try.func27, Try.ntmps27
  go_wp2
  go_big_quiet (fail)
  go_wp2
  go_ret
  exact ⟨rfl, _, rfl⟩
end Go.Proofs.Ytcmipoicnonaeaa.F
end
section
namespace Go.Proofs.Ytcmipoicnonaeaa.F
open Go.RowKit Go.Proofs.YtcmipoicnonaeaaW.PrintWords Go.Proofs.YtcmipoicnonaeaaW.PrintLast Go.Proofs.YtcmipoicnonaeaaW.PrintMore
set_option linter.unusedVariables false
set_option linter.unusedSimpArgs false
def put_T2 : Bool × List (List Nat × List Nat) := (true, [([], []), ([0], [0]), ([1], [1]), ([2], [2]), ([], []), ([3], [3]), ([], []), ([3, 6, 0, 1, 2, 3, 4, 5, 6], [3, 6]), ([7, 5, 0, 1, 2, 3, 4, 5, 6, 7], [5, 7]), ([8, 4, 7, 0, 1, 2, 3, 4, 5, 6, 7], [4, 8]), ([0, 0, 1, 2, 3, 4, 5, 6, 7], [0]), ([10, 0, 1, 2, 3, 4, 5, 6, 7], [10]), ([11, 7, 7, 0, 1, 2, 3, 4, 5, 6, 7], [7, 11])])
def put_B2 : List Nat := [0, 1, 3, 7, 0, 15, 0, 127, 255, 511, 255, 1279, 3327]
theorem put_tab2 : rtab .any (opsOf Try.f34 2) = put_T2 := by kernel_rfl
theorem put_bits2 : qct put_T2.2 put_B2 = true := by kernel_rfl
theorem own_lt_of {α : Type} {d : Kd α} {e base : Nat} {W : World} {ok : Nat → Prop} {v : Value} {xs : List α} (h : d.R e W base ok v xs) : ∀ k, v.ownBlock = some k → k < W.heap.size := Kd.R_lt h
set_option maxHeartbeats 4000000 in
set_option maxRecDepth 100000 in
theorem qgt (base g : Nat) (p : PS) (f : S59) (fs : List S59) (hpf : p.fs = f :: fs) (r : S27) (v8 : Value) (n : Int) (W : World) (ok okr : Nat → Prop) (h : IsPo base W g ok p) (hr : k27.R 27 W base okr v8 r.f5) (hd : ∀ k, okr k → ok k → False) (hl : f.f0.length ≤ 100000 ∧ f.f1.length ≤ 100000 ∧ fs.length ≤ 1000) :
  Calls Try.prog 34 #[.pointer (some ⟨g, 0, none⟩), .agg #[.int .i64 r.f0, .int .u64 r.f1.f0, .int .u64 r.f1.f1, .int .u64 r.f1.f2, .int .u64 r.f1.f3, .int .i64 r.f2, .int .i64 r.f3, .int .i64 r.f4, v8], .int .i64 n] W fun e w' => e = .returned (.int .i64 0) ∧ IsP base w' g { p with fs := { f with f0 := f.f0 ++ [r], f1 := f.f1 ++ [n] } :: fs } ∧ Bel base W w' := by
 obtain ⟨hl10, hbg, hbW, v, rs, hg, hR, hS⟩ := h
 rw [hpf] at hS
 obtain ⟨r0, rs', rfl⟩ : ∃ r0 rs', rs = r0 :: rs' := by
  cases rs with
  | nil => exact hS.elim
  | cons a b => exact ⟨a, b, rfl⟩
 obtain ⟨hrg, hra, oA, oB, h1, h2, h3, hk, hi, hS'⟩ := hS
 obtain ⟨F, c, FC, rfl, hc, hbF, hF, -⟩ := qd5 hR (by simp)
 obtain ⟨q, hq⟩ : ∃ q, rs'.length = q := ⟨_, rfl⟩
 have hrl : (r0 :: rs').reverse.length = q + 1 := by simp [hq]
 rw [hrl] at hR hc hg
 have hql : q = fs.length := by rw [← hq]; exact hS'.len
 have hr0 : (r0 :: rs').reverse[q]? = some r0 := by rw [List.reverse_cons, List.getElem?_append_right (by simp; omega)]; simp [hq]
 obtain ⟨A0, c0, hv0⟩ := Kd.qdb hk
 obtain ⟨A1, c1, hv1⟩ := Kd.qdb hi
 obtain ⟨m, hm⟩ : ∃ m, q * 4 = m := ⟨_, rfl⟩
 have HF := qa0.mk hF
 have hcells : FC[m]? = some (.slice A0 f.f0.length c0) ∧ FC[m + 1]? = some (.slice A1 f.f1.length c1) := by
  obtain ⟨cs, hcl, hM, hcc, -⟩ := Kd.qei (Kd.qdx hR) r0 (q : Int) (by omega) (by omega)
  rw [Int.toNat_natCast, List.getD_eq_getElem?_getD, hr0] at hM
  obtain ⟨rfl, -, -⟩ := hM
  have a0 := hcc 0 r0.v0 rfl
  have a1 := hcc 1 r0.v1 rfl
  rw [qa2 hF, Int.toNat_natCast, Nat.zero_add, show q * kRF.sz = m from hm, hv0] at a0
  rw [qa2 hF, Int.toNat_natCast, Nat.zero_add, show q * kRF.sz = m from hm, hv1] at a1
  exact ⟨a0, a1⟩
 have hg0 : W.cell? ⟨g, 0, none⟩ = some (.slice (some ⟨F, 0, none⟩) (q + 1) c) := (qa2 hg 0).trans rfl
 rw [hv0] at hk
 rw [hv1] at hi
 have HG := qa0.mk hg
 have HR := qa0.mk hR
 have HK := qa0.mk hk
 have HI := qa0.mk hi
 have HS := qa0.mk hS'
 have HRR := qa0.mk hr
 have HCS := qa0.mk hcells
 have HL := qa0.mk hl
 have HO := qa0.mk (And.intro h1 (And.intro h2 (And.intro h3 hd)))
 have HM := qa0.mk (And.intro hm (And.intro hq (And.intro hql hr0)))
 have HB := qa0.mk (And.intro hbg (And.intro hbW hbF))
 clear hg hR hk hi hS' hr hcells hl h1 h2 h3 hd hm hql hr0 hrl hbg hbW hbF hF hc
 go_enter Try.func34, Try.ntmps34
 go_wp2_with (first | ((with_reducible refine qb7 (N := 4) rfl ?_); refine qbb ?hg (N := 4) ?hd (cs := #[.int .i64 r.f0, .int .u64 r.f1.f0, .int .u64 r.f1.f1, .int .u64 r.f1.f2, .int .u64 r.f1.f3, .int .i64 r.f2, .int .i64 r.f3, .int .i64 r.f4, v8]) (t := 27) ?hr ?_; (case hd => rfl); (case hg => rfl); (case hr => first | (go_simp; done) | (go_simp; rfl)); intro gb hgb w1 hbox hb1; have HBX := qa0.mk hbox; have HB1 := qa0.mk hb1; have HGB := qa0.mk hgb; have hg1 : w1.cell? ⟨g, 0, none⟩ = some (.slice (some ⟨F, 0, none⟩) (q + 1) c) := (qa2 (qae HG.out hb1) 0).trans rfl; clear hbox hb1 hgb hg0) | (go_at_call 27; refine (qdd g F (q + 1) c _ hg1 (by omega) (by have := HL.out; have := HM.out.2.2.1; omega)).mono ?_; rintro e' w2 ⟨rfl, mm, rfl⟩; rw [show q + 1 - 1 = q from rfl, HM.out.1]))
 refine qe1 (n := 13) (S := fun w' => True) (ds := []) #[false, false, false, false, false, false, false, false, false, false, false, false, false] (by kernel_rfl) rfl rfl trivial (fun hHeld => ?_)
 refine qd4 put_tab2 put_bits2 (fun HT_ HW_ => ?_)
 clear hg1
 generalize hY : World.drew _ = Y at hHeld ⊢
 have HBY : qa0 (Below W.heap.size W Y) := by subst hY; exact ⟨by repeat (first | exact HB1.out | apply qa8 | apply qa7)⟩
 have HXY : qa0 (Y.heap[gb]? = some (.cells #[.int .i64 r.f0, .int .u64 r.f1.f0, .int .u64 r.f1.f1, .int .u64 r.f1.f2, .int .u64 r.f1.f3, .int .i64 r.f2, .int .i64 r.f3, .int .i64 r.f4, v8] 27 (0, 0))) := by subst hY; exact HBX
 clear hY HBX HB1
 have HF2 := qa0.mk (qae HF.out HBY.out)
 have HG2 := qa0.mk (qae HG.out HBY.out)
 have HK2 := qa0.mk (R_bd (Kd.qbg HK.out HBY.out))
 have HI2 := qa0.mk (I_bd (Kd.qbg HI.out HBY.out))
 have HR2 := qa0.mk (Kd.qbg HR.out HBY.out)
 have HRR2 := qa0.mk (R_bd (Kd.qbg HRR.out HBY.out))
 have HS2 := qa0.mk ((HS.out.step (fun k _ hk => HBY.out.block k hk)).bd)
 have HBb := qa0.mk (Nat.le_trans HB.out.2.1 HBY.out.size)
 obtain ⟨ok1, hok1⟩ : ∃ o : Nat → Prop, (fun k => oA k ∨ okr k ∨ Y.heap.size ≤ k) = o := ⟨_, rfl⟩
 have HOK := qa0.mk hok1
 have HK3 : qa0 (k27.R 27 Y base ok1 (.slice A0 f.f0.length c0) f.f0) := ⟨Kd.qbd HK2.out (fun k hk => by rw [← hok1]; exact .inl hk.1)⟩
 clear HF HG HK HI HR HRR HS hok1
 refine qe6 [0, 1, 2, 3, 4, 5, 6, 7, 8, 9, 10, 11, 12] (fun a0_ b_ a w' => ∃ (Kb cK gz Kp : Nat), (b_ 8 = true → Kp = Kb) ∧ a = qb0 a0_ b_ [(0, 10, .pointer (some ⟨F, m, none⟩)), (1, 11, .pointer (some ⟨F, m, none⟩)), (2, 12, .pointer (some ⟨F, m, none⟩)), (3, 13, .slice A0 f.f0.length c0), (4, 14, .agg #[.int .i64 r.f0, .int .u64 r.f1.f0, .int .u64 r.f1.f1, .int .u64 r.f1.f2, .int .u64 r.f1.f3, .int .i64 r.f2, .int .i64 r.f3, .int .i64 r.f4, v8]), (5, 15, .int .i64 (f.f0.length : Int)), (6, 16, .slice (some ⟨gz, 0, none⟩) 1 1), (7, 17, .slice (some ⟨Kb, 0, none⟩) (f.f0.length + 1) cK), (8, 18, .pointer (some ⟨Kp, f.f0.length * 9, none⟩)), (10, 19, .pointer (some ⟨F, m, none⟩)), (11, 20, .pointer (some ⟨F, m, none⟩))] ∧ (b_ 6 = false → w' = Y) ∧ (b_ 6 = true → b_ 7 = false → gz = Y.heap.size ∧ w' = Y.alloc (.cells #[.int .i64 0, .int .u64 0, .int .u64 0, .int .u64 0, .int .u64 0, .int .i64 0, .int .i64 0, .int .i64 0, .slice none 0 0] 27 (0, 0))) ∧ (b_ 6 = false → b_ 7 = false) ∧ (b_ 7 = true → PutI base Y ok1 (Value.slice A0 f.f0.length c0).ownBlock F FC m f.f0 r (.slice (some ⟨Kb, 0, none⟩) (f.f0.length + 1) cK) (b_ 9) (b_ 12) w')) HT_.out HW_.out (by kernel_rfl) (by kernel_rfl) ?_ ?_ ?_
 ·exact ⟨0, 0, 0, 0, (fun h => by cases h), by simp only [qb0, Bool.false_eq_true, if_false], fun _ => rfl, (fun h => by cases h), (fun _ => rfl), (fun h => by cases h)⟩
 ·skip
  refine qab ?_ ?_
  ·rintro b_ a w' ⟨Kb, cK, gz, Kp, h8p, ha, h6, h67, h76, h7⟩ hb_ hon hoff
   refine ⟨_, rfl, fun Kc hKc => ?_⟩
   have e7 : a.tmps[7]? = some (.pointer (some ⟨F, m, none⟩)) := by rw [ha]; exact (qb4 rfl).trans rfl
   replace ha := qa0.mk ha
   replace h7 := qa0.mk h7
   replace h67 := qa0.mk h67
   refine qar (w1 := w') (v := .pointer (some ⟨F, m, none⟩)) (by rfl) rfl (by go_simp; try rfl) ?_
   exact hKc.out _ _ ⟨Kb, cK, gz, Kp, h8p, by rw [ha.out]; exact qac 0 hb_ rfl rfl rfl, h6, h67.out, h76, h7.out⟩
  refine qab ?_ ?_
  ·rintro b_ a w' ⟨Kb, cK, gz, Kp, h8p, ha, h6, h67, h76, h7⟩ hb_ hon hoff
   refine ⟨_, rfl, fun Kc hKc => ?_⟩
   have e10 : a.tmps[10]? = some (.pointer (some ⟨F, m, none⟩)) := by rw [ha]; exact qaf (e := (0, 10, .pointer (some ⟨F, m, none⟩))) 0 rfl rfl (hon 0 (by kernel_rfl)) rfl
   replace ha := qa0.mk ha
   replace h7 := qa0.mk h7
   replace h67 := qa0.mk h67
   refine qar (w1 := w') (v := .pointer (some ⟨F, m, none⟩)) (by rfl) rfl (by go_simp; try rfl) ?_
   exact hKc.out _ _ ⟨Kb, cK, gz, Kp, h8p, by rw [ha.out]; exact qac 1 hb_ rfl rfl rfl, h6, h67.out, h76, h7.out⟩
  refine qab ?_ ?_
  ·rintro b_ a w' ⟨Kb, cK, gz, Kp, h8p, ha, h6, h67, h76, h7⟩ hb_ hon hoff
   refine ⟨_, rfl, fun Kc hKc => ?_⟩
   have e11 : a.tmps[11]? = some (.pointer (some ⟨F, m, none⟩)) := by rw [ha]; exact qaf (e := (1, 11, .pointer (some ⟨F, m, none⟩))) 1 rfl rfl (hon 1 (by kernel_rfl)) rfl
   replace ha := qa0.mk ha
   replace h7 := qa0.mk h7
   replace h67 := qa0.mk h67
   refine qar (w1 := w') (v := .pointer (some ⟨F, m, none⟩)) (by rfl) rfl (by go_simp; try rfl) ?_
   exact hKc.out _ _ ⟨Kb, cK, gz, Kp, h8p, by rw [ha.out]; exact qac 2 hb_ rfl rfl rfl, h6, h67.out, h76, h7.out⟩
  refine qab ?_ ?_
  ·rintro b_ a w' ⟨Kb, cK, gz, Kp, h8p, ha, h6, h67, h76, h7⟩ hb_ hon hoff
   refine ⟨_, rfl, fun Kc hKc => ?_⟩
   have e12 : a.tmps[12]? = some (.pointer (some ⟨F, m, none⟩)) := by rw [ha]; exact qaf (e := (2, 12, .pointer (some ⟨F, m, none⟩))) 2 rfl rfl (hon 2 (by kernel_rfl)) rfl
   have hb7 := hoff 7 (by kernel_rfl)
   have hBw : Below Y.heap.size Y w' := by
    cases h6b : b_ 6 with
    | false => rw [h6 h6b]; exact Below.refl _ _
    | true => rw [(h67 h6b hb7).2]; exact qa6 (Below.refl _ _) _
   have hcF : w'.cell? ⟨F, m, none⟩ = some (.slice A0 f.f0.length c0) := (qa2 (qae HF2.out hBw) m).trans HCS.out.1
   clear hBw
   replace ha := qa0.mk ha
   replace h7 := qa0.mk h7
   replace h67 := qa0.mk h67
   refine qar (w1 := w') (v := .slice A0 f.f0.length c0) (by rfl) rfl (by go_simp; try rfl) ?_
   exact hKc.out _ _ ⟨Kb, cK, gz, Kp, h8p, by rw [ha.out]; exact qac 3 hb_ rfl rfl rfl, h6, h67.out, h76, h7.out⟩
  refine qab ?_ ?_
  ·rintro b_ a w' ⟨Kb, cK, gz, Kp, h8p, ha, h6, h67, h76, h7⟩ hb_ hon hoff
   refine ⟨_, rfl, fun Kc hKc => ?_⟩
   have e4 : a.tmps[4]? = some (.pointer (some ⟨gb, 0, none⟩)) := by rw [ha]; exact (qb4 rfl).trans rfl
   have hb7 := hoff 7 (by kernel_rfl)
   have hBw : Below Y.heap.size Y w' := by
    cases h6b : b_ 6 with
    | false => rw [h6 h6b]; exact Below.refl _ _
    | true => rw [(h67 h6b hb7).2]; exact qa6 (Below.refl _ _) _
   have hXw := qae HXY.out hBw
   have hx0 : w'.cell? ⟨gb, 0, none⟩ = some (.int .i64 r.f0) := (qa2 hXw 0).trans rfl
   have hx1 : w'.cell? ⟨gb, 1, none⟩ = some (.int .u64 r.f1.f0) := (qa2 hXw 1).trans rfl
   have hx2 : w'.cell? ⟨gb, 2, none⟩ = some (.int .u64 r.f1.f1) := (qa2 hXw 2).trans rfl
   have hx3 : w'.cell? ⟨gb, 3, none⟩ = some (.int .u64 r.f1.f2) := (qa2 hXw 3).trans rfl
   have hx4 : w'.cell? ⟨gb, 4, none⟩ = some (.int .u64 r.f1.f3) := (qa2 hXw 4).trans rfl
   have hx5 : w'.cell? ⟨gb, 5, none⟩ = some (.int .i64 r.f2) := (qa2 hXw 5).trans rfl
   have hx6 : w'.cell? ⟨gb, 6, none⟩ = some (.int .i64 r.f3) := (qa2 hXw 6).trans rfl
   have hx7 : w'.cell? ⟨gb, 7, none⟩ = some (.int .i64 r.f4) := (qa2 hXw 7).trans rfl
   have hx8 : w'.cell? ⟨gb, 8, none⟩ = some (v8) := (qa2 hXw 8).trans rfl
   clear hXw
   clear hBw
   replace ha := qa0.mk ha
   replace h7 := qa0.mk h7
   replace h67 := qa0.mk h67
   refine qar (w1 := w') (v := .agg #[.int .i64 r.f0, .int .u64 r.f1.f0, .int .u64 r.f1.f1, .int .u64 r.f1.f2, .int .u64 r.f1.f3, .int .i64 r.f2, .int .i64 r.f3, .int .i64 r.f4, v8]) (by rfl) rfl (by go_simp; try rfl) ?_
   exact hKc.out _ _ ⟨Kb, cK, gz, Kp, h8p, by rw [ha.out]; exact qac 4 hb_ rfl rfl rfl, h6, h67.out, h76, h7.out⟩
  refine qab ?_ ?_
  ·rintro b_ a w' ⟨Kb, cK, gz, Kp, h8p, ha, h6, h67, h76, h7⟩ hb_ hon hoff
   refine ⟨_, rfl, fun Kc hKc => ?_⟩
   have e13 : a.tmps[13]? = some (.slice A0 f.f0.length c0) := by rw [ha]; exact qaf (e := (3, 13, .slice A0 f.f0.length c0)) 3 rfl rfl (hon 3 (by kernel_rfl)) rfl
   replace ha := qa0.mk ha
   replace h7 := qa0.mk h7
   replace h67 := qa0.mk h67
   refine qar (w1 := w') (v := .int .i64 (f.f0.length : Int)) (by rfl) rfl (by go_simp; try rfl) ?_
   exact hKc.out _ _ ⟨Kb, cK, gz, Kp, h8p, by rw [ha.out]; exact qac 5 hb_ rfl rfl rfl, h6, h67.out, h76, h7.out⟩
  refine qab ?_ ?_
  ·rintro b_ a w' ⟨Kb, cK, gz, Kp, h8p, ha, h6, h67, h76, h7⟩ hb_ hon hoff
   refine ⟨_, rfl, fun Kc hKc => ?_⟩
   have hw := h6 hb_
   subst hw
   have hb7 := h76 hb_
   replace ha := qa0.mk ha
   replace h7 := qa0.mk h7
   clear h67
   refine qeq (w1 := w'.alloc (.cells #[.int .i64 0, .int .u64 0, .int .u64 0, .int .u64 0, .int .u64 0, .int .i64 0, .int .i64 0, .int .i64 0, .slice none 0 0] 27 (0, 0))) (v := .slice (some ⟨w'.heap.size, 0, none⟩) 1 1) (by rfl) (by go_simp; try rfl) ?_
   exact hKc.out _ _ ⟨Kb, cK, w'.heap.size, Kp, h8p, by rw [ha.out]; exact qac 6 hb_ rfl rfl rfl, (fun h => by cases h), (fun _ _ => ⟨rfl, rfl⟩), (fun h => by cases h), fun h => by rw [show up b_ 6 7 = b_ 7 from rfl, hb7] at h; cases h⟩
  refine qab ?_ ?_
  ·rintro b_ a w' ⟨Kb, cK, gz, Kp, h8p, ha, h6, h67, h76, h7⟩ hb_ hon hoff
   refine ⟨_, rfl, fun Kc hKc => ?_⟩
   have e13 : a.tmps[13]? = some (.slice A0 f.f0.length c0) := by rw [ha]; exact qaf (e := (3, 13, .slice A0 f.f0.length c0)) 3 rfl rfl (hon 3 (by kernel_rfl)) rfl
   have e16 : a.tmps[16]? = some (.slice (some ⟨gz, 0, none⟩) 1 1) := by rw [ha]; exact qaf (e := (6, 16, .slice (some ⟨gz, 0, none⟩) 1 1)) 6 rfl rfl (hon 6 (by kernel_rfl)) rfl
   obtain ⟨rfl, rfl⟩ := h67 (hon 6 (by kernel_rfl)) hb_
   have e9 := hoff 9 (by kernel_rfl)
   have e12 := hoff 12 (by kernel_rfl)
   have ev13 : a.eval (.tmp 13) = .slice A0 f.f0.length c0 := by simp only [Act.eval, Array.getD_eq_getD_getElem?, e13, Option.getD_some]
   have ev16 : a.eval (.tmp 16) = .slice (some ⟨Y.heap.size, 0, none⟩) 1 1 := by simp only [Act.eval, Array.getD_eq_getD_getElem?, e16, Option.getD_some]
   refine Kd.qgs k27 (w0 := Y) (W := Y) base (by rfl) (.tmp 13) (.tmp 16) 25 27 (.agg #[.int .i64 0, .int .u64 0, .int .u64 0, .int .u64 0, .int .u64 0, .int .i64 0, .int .i64 0, .int .i64 0, .slice none 0 0]) 88 rfl Try.underlying25 info27 rfl (by decide) (by omega) (.slice A0 f.f0.length c0) f.f0 z27 [.int .i64 0, .int .u64 0, .int .u64 0, .int .u64 0, .int .u64 0, .int .i64 0, .int .i64 0, .int .i64 0, .slice none 0 0] ok1 (fun _ => False) ev13 ev16 (qfv Y base _ z27 (Kd.qfd _ _ _ _ _)) (fun _ hk => hk.elim) (fun k hk => by rw [← HOK.out]; exact .inr (.inr hk)) HK3.out (Below.refl _ _) HBb.out (by have := HL.out; omega) ?_
   intro v1 w1 hR1 hB1 hg1 hat
   obtain ⟨K1, c1', cells1, rfl, -, -, -, -⟩ := qd5 hR1 (by simp)
   have hl1 : (f.f0 ++ [z27]).length = f.f0.length + 1 := by simp
   rw [hl1] at hR1 hat ⊢
   have hp := put_first (m := m) (r := r) HK3.out HF2.out hR1 hg1 hat hB1
   exact hKc.out _ _ ⟨K1, c1', Y.heap.size, Kp, (fun h => by rw [show up b_ 7 8 = b_ 8 from rfl, hoff 8 (by kernel_rfl)] at h; cases h), by rw [ha]; exact qac 7 hb_ rfl rfl rfl, (fun h => by rw [show up b_ 7 6 = b_ 6 from rfl, hon 6 (by kernel_rfl)] at h; cases h), (fun _ h => by cases h), (fun h => by rw [show up b_ 7 6 = b_ 6 from rfl, hon 6 (by kernel_rfl)] at h; cases h), fun _ => by rw [show up b_ 7 9 = b_ 9 from rfl, show up b_ 7 12 = b_ 12 from rfl, e9, e12]; exact hp⟩
  refine qab ?_ ?_
  ·rintro b_ a w' ⟨Kb, cK, gz, Kp, h8p, ha, h6, h67, h76, h7⟩ hb_ hon hoff
   refine ⟨_, rfl, fun Kc hKc => ?_⟩
   have e17 : a.tmps[17]? = some (.slice (some ⟨Kb, 0, none⟩) (f.f0.length + 1) cK) := by rw [ha]; exact qaf (e := (7, 17, .slice (some ⟨Kb, 0, none⟩) (f.f0.length + 1) cK)) 7 rfl rfl (hon 7 (by kernel_rfl)) rfl
   have e15 : a.tmps[15]? = some (.int .i64 (f.f0.length : Int)) := by rw [ha]; exact qaf (e := (5, 15, .int .i64 (f.f0.length : Int))) 5 rfl rfl (hon 5 (by kernel_rfl)) rfl
   have p0 : (0 ≤ (f.f0.length : Int)) = True := eq_true (by omega)
   have p1 : ((f.f0.length : Int) < ((f.f0.length + 1 : Nat) : Int)) = True := eq_true (by omega)
   have p2 : ((f.f0.length : Int) < (f.f0.length : Int) + 1) = True := eq_true (by omega)
   replace ha := qa0.mk ha
   replace h7 := qa0.mk h7
   replace h67 := qa0.mk h67
   refine qar (w1 := w') (v := .pointer (some ⟨Kb, f.f0.length * 9, none⟩)) (by rfl) rfl (by go_simp; try rfl) ?_
   exact hKc.out _ _ ⟨Kb, cK, gz, Kb, (fun _ => rfl), by rw [ha.out]; exact qac 8 hb_ rfl rfl rfl, h6, h67.out, h76, h7.out⟩
  refine qab ?_ ?_
  ·rintro b_ a w' ⟨Kb, cK, gz, Kp, h8p, ha, h6, h67, h76, h7⟩ hb_ hon hoff
   refine ⟨_, rfl, fun Kc hKc => ?_⟩
   have e18 : a.tmps[18]? = some (.pointer (some ⟨Kp, f.f0.length * 9, none⟩)) := by rw [ha]; exact qaf (e := (8, 18, .pointer (some ⟨Kp, f.f0.length * 9, none⟩))) 8 rfl rfl (hon 8 (by kernel_rfl)) rfl
   have e14 : a.tmps[14]? = some (.agg #[.int .i64 r.f0, .int .u64 r.f1.f0, .int .u64 r.f1.f1, .int .u64 r.f1.f2, .int .u64 r.f1.f3, .int .i64 r.f2, .int .i64 r.f3, .int .i64 r.f4, v8]) := by rw [ha]; exact qaf (e := (4, 14, .agg #[.int .i64 r.f0, .int .u64 r.f1.f0, .int .u64 r.f1.f1, .int .u64 r.f1.f2, .int .u64 r.f1.f3, .int .i64 r.f2, .int .i64 r.f3, .int .i64 r.f4, v8])) 4 rfl rfl (hon 4 (by kernel_rfl)) rfl
   have hP := h7 (hon 7 (by kernel_rfl))
   rw [hb_] at hP
   have hpk := h8p (hon 8 (by kernel_rfl))
   subst hpk
   obtain ⟨K2, c2, he2, hth, hP2⟩ := hP.elem HF2.out HRR2.out (fun k hk => by rw [← HOK.out]; exact .inr (.inl hk.1)) (fun k hk e => HO.out.2.2.2 k hk.1 (HO.out.1 k (HK2.out.1 k e.symm).1)) (fun k hk => own_lt_of HK3.out k hk) HBb.out
   have hK12 : K2 = Kp := by injection he2 with a1 _ _; injection a1 with a1; injection a1 with a1 _ _; exact a1.symm
   subst hK12
   have ev18 : a.eval (.tmp 18) = .pointer (some ⟨K2, f.f0.length * 9, none⟩) := by simp only [Act.eval, Array.getD_eq_getD_getElem?, e18, Option.getD_some]
   have ev14 : a.eval (.tmp 14) = .agg #[.int .i64 r.f0, .int .u64 r.f1.f0, .int .u64 r.f1.f1, .int .u64 r.f1.f2, .int .u64 r.f1.f3, .int .i64 r.f2, .int .i64 r.f3, .int .i64 r.f4, v8] := by simp only [Act.eval, Array.getD_eq_getD_getElem?, e14, Option.getD_some]
   rw [if_pos (by rfl)]
   refine wp_store_mid 27 (.tmp 18) (.tmp 14) rfl K2 (f.f0.length * 9) #[.int .i64 r.f0, .int .u64 r.f1.f0, .int .u64 r.f1.f1, .int .u64 r.f1.f2, .int .u64 r.f1.f3, .int .i64 r.f2, .int .i64 r.f3, .int .i64 r.f4, v8] ev18 ev14 hth (by kernel_rfl) (all_oneCell_toArray (k27.K_one (k27.K_of_M (qfv Y base _ r HRR2.out)))) ?_
   exact hKc.out _ _ ⟨K2, cK, gz, K2, (fun _ => rfl), by rw [ha]; exact qex rfl, (fun h => by rw [show up b_ 9 6 = b_ 6 from rfl] at h; have := h76 h; rw [hon 7 (by kernel_rfl)] at this; cases this), (fun h1 h2 => by rw [show up b_ 9 7 = b_ 7 from rfl, hon 7 (by kernel_rfl)] at h2; cases h2), h76, fun _ => hP2⟩
  refine qab ?_ ?_
  ·rintro b_ a w' ⟨Kb, cK, gz, Kp, h8p, ha, h6, h67, h76, h7⟩ hb_ hon hoff
   refine ⟨_, rfl, fun Kc hKc => ?_⟩
   have e10 : a.tmps[10]? = some (.pointer (some ⟨F, m, none⟩)) := by rw [ha]; exact qaf (e := (0, 10, .pointer (some ⟨F, m, none⟩))) 0 rfl rfl (hon 0 (by kernel_rfl)) rfl
   replace ha := qa0.mk ha
   replace h7 := qa0.mk h7
   replace h67 := qa0.mk h67
   refine qar (w1 := w') (v := .pointer (some ⟨F, m, none⟩)) (by rfl) rfl (by go_simp; try rfl) ?_
   exact hKc.out _ _ ⟨Kb, cK, gz, Kp, h8p, by rw [ha.out]; exact qac 9 hb_ rfl rfl rfl, h6, h67.out, h76, h7.out⟩
  refine qab ?_ ?_
  ·rintro b_ a w' ⟨Kb, cK, gz, Kp, h8p, ha, h6, h67, h76, h7⟩ hb_ hon hoff
   refine ⟨_, rfl, fun Kc hKc => ?_⟩
   have e19 : a.tmps[19]? = some (.pointer (some ⟨F, m, none⟩)) := by rw [ha]; exact qaf (e := (10, 19, .pointer (some ⟨F, m, none⟩))) 9 rfl rfl (hon 10 (by kernel_rfl)) rfl
   replace ha := qa0.mk ha
   replace h7 := qa0.mk h7
   replace h67 := qa0.mk h67
   refine qar (w1 := w') (v := .pointer (some ⟨F, m, none⟩)) (by rfl) rfl (by go_simp; try rfl) ?_
   exact hKc.out _ _ ⟨Kb, cK, gz, Kp, h8p, by rw [ha.out]; exact qac 10 hb_ rfl rfl rfl, h6, h67.out, h76, h7.out⟩
  refine qab ?_ ?_
  ·rintro b_ a w' ⟨Kb, cK, gz, Kp, h8p, ha, h6, h67, h76, h7⟩ hb_ hon hoff
   refine ⟨_, rfl, fun Kc hKc => ?_⟩
   have e20 : a.tmps[20]? = some (.pointer (some ⟨F, m, none⟩)) := by rw [ha]; exact qaf (e := (11, 20, .pointer (some ⟨F, m, none⟩))) 10 rfl rfl (hon 11 (by kernel_rfl)) rfl
   have e17 : a.tmps[17]? = some (.slice (some ⟨Kb, 0, none⟩) (f.f0.length + 1) cK) := by rw [ha]; exact qaf (e := (7, 17, .slice (some ⟨Kb, 0, none⟩) (f.f0.length + 1) cK)) 7 rfl rfl (hon 7 (by kernel_rfl)) rfl
   have hP := h7 (hon 7 (by kernel_rfl))
   rw [hb_] at hP
   have hP2 := hP.slice (qam HF2.out) HB.out.2.2 rfl
   have hcF : w'.cell? ⟨F, m, none⟩ = some (.slice A0 f.f0.length c0) := (qa2 (t := 59) (cs := FC) hP.2.1 m).trans HCS.out.1
   have hfF : w'.frozen? ⟨F, m, none⟩ = false := qa1 (t := 59) (cs := FC) hP.2.1 m
   clear hP
   replace ha := qa0.mk ha
   replace hP2 := qa0.mk hP2
   replace h67 := qa0.mk h67
   replace h7 := qa0.mk h7
   refine qgg (w1 := w'.setCell ⟨F, m, none⟩ (.slice (some ⟨Kb, 0, none⟩) (f.f0.length + 1) cK)) (by rfl) rfl (by go_simp; try rfl) ?_
   exact hKc.out _ _ ⟨Kb, cK, gz, Kp, h8p, by rw [ha.out]; exact (qd1 rfl).symm, (fun h => by rw [show up b_ 12 6 = b_ 6 from rfl] at h; have := h76 h; rw [hon 7 (by kernel_rfl)] at this; cases this), (fun h1 h2 => by rw [show up b_ 12 7 = b_ 7 from rfl, hon 7 (by kernel_rfl)] at h2; cases h2), h76, fun _ => hP2.out⟩
  exact qd8
 ·rintro b_ a w' hall ⟨Kb, cK, gz, Kp, h8p, ha, h6, h67, h76, h7⟩
  have hb0_ := hall 0 (by kernel_rfl)
  have hb1_ := hall 1 (by kernel_rfl)
  have hb2_ := hall 2 (by kernel_rfl)
  have hb3_ := hall 3 (by kernel_rfl)
  have hb4_ := hall 4 (by kernel_rfl)
  have hb5_ := hall 5 (by kernel_rfl)
  have hb6_ := hall 6 (by kernel_rfl)
  have hb7_ := hall 7 (by kernel_rfl)
  have hb8_ := hall 8 (by kernel_rfl)
  have hb9_ := hall 9 (by kernel_rfl)
  have hb10_ := hall 10 (by kernel_rfl)
  have hb11_ := hall 11 (by kernel_rfl)
  have hb12_ := hall 12 (by kernel_rfl)
  have hP := h7 hb7_
  rw [hb9_, hb12_] at hP
  subst ha
  simp only [qb0, hb0_, hb1_, hb2_, hb3_, hb4_, hb5_, hb6_, hb7_, hb8_, hb10_, hb11_, if_true, Act.put, List.setIfInBounds_toArray, List.set_cons_zero, List.set_cons_succ]
  have HP := qa0.mk hP
  have hpk := h8p hb8_
  subst hpk
  clear hall h6 h67 h76 h7 h8p hHeld HT_ HW_ hP hb0_ hb1_ hb2_ hb3_ hb4_ hb5_ hb6_ hb7_ hb8_ hb9_ hb10_ hb11_ hb12_
  have hwF := HP.out.2.1
  rw [if_pos rfl] at hwF
  have HKa : k27.R 27 Y base oA (.slice A0 f.f0.length c0) f.f0 := Kd.qbd HK2.out (fun k hk => hk.1)
  have HIa : (Kd.int .i64).R 3 Y base oA (.slice A1 f.f1.length c1) f.f1 := Kd.qbd HI2.out (fun k hk => hk.1)
  have HIw := qa0.mk (put_ints HKa HIa HF2.out HP.out)
  have hset : (FC.setIfInBounds m (.slice (some ⟨Kp, 0, none⟩) (f.f0.length + 1) cK))[m + 1]? = some (.slice A1 f.f1.length c1) := by rw [Array.getElem?_setIfInBounds_ne (by omega)]; exact HCS.out.2
  have hcF1 : w'.cell? ⟨F, m + 1, none⟩ = some (.slice A1 f.f1.length c1) := (qa2 hwF (m + 1)).trans hset
  have hfF1 : w'.frozen? ⟨F, m + 1, none⟩ = false := qa1 hwF (m + 1)
  have HWF := qa0.mk hwF
  have HKA := qa0.mk HKa
  have HIA := qa0.mk HIa
  have HST := qa0.mk hset
  have HWS : qa0 (base ≤ w'.heap.size ∧ Y.heap.size ≤ w'.heap.size) := ⟨Nat.le_trans HBb.out HP.out.1.1, HP.out.1.1⟩
  clear hwF HKa HIa hset HK2 HI2 HK3
  go_wp2_with (first | ((with_reducible refine gate_builtin (b := .append) (xs := #[.tmp 25, .tmp 27]) rfl ?_); at_builtin; refine Kd.R_append (Kd.int .i64) (w0 := w') base rfl (.tmp 25) (.tmp 27) 57 3 (.int .i64 0) 8 rfl Try.underlying57 info3 rfl (by decide) (by omega) (.slice A1 f.f1.length c1) f.f1 n [.int .i64 n] (fun k => oA k ∨ Y.heap.size ≤ k) (fun _ => False) rfl rfl ?aP (fun _ hk => hk.elim) ?aF ?aO ?aB ?aS ?aL ?_; (case aP => exact rfl); (case aB => exact Below.refl _ _); (case aF => exact fun k hk => .inr (Nat.le_trans HWS.out.2 hk)); (case aO => exact HIw.out); (case aS => exact HWS.out.1); (case aL => have := HL.out; omega); intro v2 w3 ho hb hg hat; obtain ⟨A2, c2, rfl⟩ := Kd.qdb ho; have h3F := qd0 HWF.out hg (qe7 HIw.out HWF.out (by decide)); have hcF3 : w3.cell? ⟨F, m + 1, none⟩ = some (.slice A1 f.f1.length c1) := (qa2 h3F (m + 1)).trans HST.out; have hfF3 : w3.frozen? ⟨F, m + 1, none⟩ = false := qa1 h3F (m + 1); have HO3 := qa0.mk ho; have HB3 := qa0.mk hb; have HG3 := qa0.mk hg; clear ho hb hg hat h3F hcF1 hfF1))
  go_ret
  have hP := HP.out
  rw [← HOK.out] at hP
  have hfin := put_done (okr := okr) (n := n) hl10 HB.out.1 HBb.out HB.out.2.2 HG2.out HF2.out HR2.out HM.out.2.1 HM.out.1 hrg hra (by rw [hv0]; exact HKA.out) (by rw [hv1]; exact HIA.out) HS2.out HO.out.2.2.1 (fun k h1 h2 => HO.out.2.2.2 k h1 (HO.out.2.1 k h2)) (by rw [hv0]; exact hP) ⟨_, _, _, rfl⟩ ⟨_, _, _, hv1⟩ HO3.out (by rw [hv1]; exact HG3.out) ⟨_, _, _, rfl⟩ HB3.out
  rw [show (f.f1 ++ [n]).length = f.f1.length + 1 by simp] at hfin
  exact ⟨rfl, hfin.1, (Bel.of_below HBY.out HB.out.2.1).trans hfin.2⟩
end Go.Proofs.Ytcmipoicnonaeaa.F
end
