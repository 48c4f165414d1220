/- Texts of this claim, 21 of 29: F12, E30. -/
import Derived.Laws.EntriesVeiled
import Derived.Shelf.RegionOpen
import Derived.Test.YtcmipoicnonaeaaKS4
import Derived.Test.YtcmipoicnonaeaaKS19
import Derived.Test.YtcmipoicnonaeaaKS20
section
namespace Go.Proofs.Ytcmipoicnonaeaa.F
open Go.RowKit Go.Shelf Go.Proofs.YtcmipoicnonaeaaW.PrintWords Go.Proofs.YtcmipoicnonaeaaW.PrintLast Go.Proofs.YtcmipoicnonaeaaW.PrintMore
set_option linter.unusedVariables false
set_option linter.unusedSimpArgs false
def ansP : Sum (Int × Int) PS → Option (List S27 × Int × Int)
 | .inl (e, a) => some ([], e, a)
 | .inr p => match p.fs with
  | [] => none
  | [f] => some (f.f0, 0, 0)
  | f :: f2 :: fs => if fs.length ≤ 1000 then some ([], 10, f.f3) else none
attribute [local go_sem] Oper.semAt_some
set_option maxHeartbeats 0 in
set_option maxRecDepth 100000 in
theorem parse_in (s : ByteArray) (k N : Nat) (L : List Tok) (res : Sum (Int × Int) PS) (xs : List S27) (e0 a0 : Int) (hlen : s.size ≤ 512) (hL : tokL k s N 0 true true = some L) (hres : runP p0 L = some res) (hans : ansP res = some (xs, e0, a0)) (w : World) (hM : ML w) :
  CallsIn Fence.wide 3 Try.prog 12 #[.string s] w fun e w' => Below w.heap.size w w' ∧ ∃ v, e = .returned (.tuple #[.agg (zRe v 0), .agg #[.int .i64 e0, .int .i64 a0]]) ∧ k27.R 27 w' w.heap.size (fun k => w.heap.size ≤ k) v xs := by
 have hu := Try.underlying67
 have huS := Try.underlying24
 have huR := Try.underlying27
 have huF := Try.underlying59
 have huP := Try.underlying62
 have hcl : decide ((512 : Int) < (s.size : Int)) = false := decide_eq_false (by omega)
 have HL := qa0.mk hL
 have HRes := qa0.mk hres
 have HM := qa0.mk hM
 have HA := qa0.mk hans
 clear hL hres hM hlen hans
 refine callsIn_of_wp_marks Try.func12 rfl trivial ?_ rfl
 simp only [Try.ntmps12, List.size_toArray, List.length_cons, List.length_nil, Nat.reduceAdd, Nat.reduceSub, Array.replicate_succ, Array.replicate_zero, List.push_toArray, List.append_toArray, List.nil_append, List.cons_append]
 gi_wp2_with (refine ⟨trivial, ?_⟩; gi_at_call 25; refine (callsIn_wide.2 (qhx s _)).mono ?_; rintro e w' ⟨rfl, rfl⟩)
 obtain ⟨W1, hW1⟩ : ∃ W1, ((((((w.alloc (.cells #[.int .i64 0, .int .u64 0, .int .u64 0, .int .u64 0, .int .u64 0, .int .i64 0, .int .i64 0, .int .i64 0, .slice none 0 0] 27)).alloc (.cells #[.int .i64 0, .int .i64 0] 30)).alloc (.cells #[.slice none 0 0, .slice none 0 0, .int .i64 0, .int .i64 0] 59)).alloc (.cells #[.slice (some ⟨w.heap.size + 1 + 1, 0, none⟩) 1 1, .int .i64 0, .bool false, .bool false, .bool false, .bool false, .bool false, .bool false, .bool false, .bool false, .bool false, .bool false, .int .i64 0] 62)).alloc (.cells #[.pointer (some ⟨w.heap.size + 1 + 1 + 1, 0, none⟩)] 56)).alloc (.cells #[.string s] 9)) = W1 := ⟨_, rfl⟩
 have hP1 : qa0 (IsP (w.heap.size + 1 + 1) W1 (w.heap.size + 1 + 1 + 1) p0 ∧ W1.heap[w.heap.size + 1 + 1 + 1 + 1]? = some (.cells #[.pointer (some ⟨w.heap.size + 1 + 1 + 1, 0, none⟩)] 56 (0, 0)) ∧ W1.heap[w.heap.size + 1 + 1 + 1 + 1 + 1]? = some (.cells #[.string s] 9 (0, 0)) ∧ W1.heap[w.heap.size]? = some (.cells zR 27 (0, 0)) ∧ W1.heap[w.heap.size + 1]? = some (.cells #[.int .i64 0, .int .i64 0] 30 (0, 0)) ∧ Below w.heap.size w W1 ∧ W1.heap.size = w.heap.size + 6) := by
  rw [← hW1]
  generalize hX1 : w.alloc (.cells #[.int .i64 0, .int .u64 0, .int .u64 0, .int .u64 0, .int .u64 0, .int .i64 0, .int .i64 0, .int .i64 0, .slice none 0 0] 27) = X1
  have s1 : X1.heap.size = w.heap.size + 1 := by rw [← hX1, World.size_alloc]
  have c1 : X1.heap[w.heap.size]? = some (.cells zR 27 (0, 0)) := by rw [← hX1]; exact qat _ _
  have B1 : Below w.heap.size w X1 := by rw [← hX1]; exact qa6 (Below.refl _ _) _
  generalize hX2 : X1.alloc (.cells #[.int .i64 0, .int .i64 0] 30) = X2
  have s2 : X2.heap.size = w.heap.size + 1 + 1 := by rw [← hX2, World.size_alloc, s1]
  have c2 : X2.heap[w.heap.size + 1]? = some (.cells #[.int .i64 0, .int .i64 0] 30 (0, 0)) := by rw [← hX2, ← s1]; exact qat _ _
  have c1' : X2.heap[w.heap.size]? = some (.cells zR 27 (0, 0)) := by rw [← hX2]; exact qa3 c1 _
  have B2 : Below w.heap.size w X2 := by rw [← hX2]; exact qa6 B1 _
  have hp := isP_new X2
  rw [s2] at hp
  generalize hX4 : (X2.alloc (.cells #[.slice none 0 0, .slice none 0 0, .int .i64 0, .int .i64 0] 59)).alloc (.cells (Pc (.slice (some ⟨w.heap.size + 1 + 1, 0, none⟩) 1 1) p0).toArray 62) = X4 at hp
  have hX4' : (X2.alloc (.cells #[.slice none 0 0, .slice none 0 0, .int .i64 0, .int .i64 0] 59)).alloc (.cells #[.slice (some ⟨w.heap.size + 1 + 1, 0, none⟩) 1 1, .int .i64 0, .bool false, .bool false, .bool false, .bool false, .bool false, .bool false, .bool false, .bool false, .bool false, .bool false, .int .i64 0] 62) = X4 := hX4
  have s4 : X4.heap.size = w.heap.size + 1 + 1 + 1 + 1 := by rw [← hX4, World.size_alloc, World.size_alloc, s2]
  have c1q : X4.heap[w.heap.size]? = some (.cells zR 27 (0, 0)) := by rw [← hX4]; exact qa3 (qa3 c1' _) _
  have c2q : X4.heap[w.heap.size + 1]? = some (.cells #[.int .i64 0, .int .i64 0] 30 (0, 0)) := by rw [← hX4]; exact qa3 (qa3 c2 _) _
  have B4 : Below w.heap.size w X4 := by rw [← hX4]; exact qa6 (qa6 B2 _) _
  rw [hX4']
  have n5 := qat X4 (.cells #[.pointer (some ⟨w.heap.size + 1 + 1 + 1, 0, none⟩)] 56)
  have n6 := qat (X4.alloc (.cells #[.pointer (some ⟨w.heap.size + 1 + 1 + 1, 0, none⟩)] 56)) (.cells #[.string s] 9)
  rw [World.size_alloc, s4] at n6
  rw [s4] at n5
  exact ⟨hp.below (qa6 (qa6 (Below.refl _ _) _) _), qa3 n5 _, n6, qa3 (qa3 c1q _) _, qa3 (qa3 c2q _) _, qa6 (qa6 B4 _) _, by rw [World.size_alloc, World.size_alloc, s4]⟩
 rw [hW1]
 clear hW1
 generalize hb5 : w.heap.size + 1 + 1 + 1 + 1 + 1 = Bn at hP1 ⊢
 generalize hb4 : w.heap.size + 1 + 1 + 1 + 1 = Bp at hP1 ⊢
 generalize hb3 : w.heap.size + 1 + 1 + 1 = g at hP1 ⊢
 generalize hb2 : w.heap.size + 1 + 1 = base at hP1
 have hNE : qa0 (base = w.heap.size + 2 ∧ w.heap.size + 6 = Bn + 1) := ⟨by omega⟩
 clear hb2 hb3 hb4 hb5
 refine range_told L (fun x : Tok => #[.agg x.cells]) Kp67 (gf := 32) (lb := #[.pointer (some ⟨Bn, 0, none⟩)]) rfl (enters_of Try.func32 (by kernel_rfl) rfl) (fun _ => rfl) (fun h k b c hb => k b c (h b c hb)) ?kpb
  (fun pre W => (∃ p, stP p0 pre = some p ∧ IsP base W g p) ∧ Bel base W1 W)
  (fun pre W => ∃ e a, res = .inl (e, a) ∧ W.heap[w.heap.size]? = some (.cells zR 27 (0, 0)) ∧ W.heap[w.heap.size + 1]? = some (.cells #[.int .i64 e, .int .i64 a] 30 (0, 0)) ∧ Below w.heap.size w W)
  (fun pre x a' W => ∃ Bx, a' = { tmps := #[.string s, undef, .pointer (some ⟨w.heap.size, 0, none⟩), .pointer (some ⟨w.heap.size + 1, 0, none⟩), .pointer (some ⟨Bp, 0, none⟩), .pointer (some ⟨Bx, 0, none⟩), undef, .string s, .int .i64 (s.size : Int), .bool false, undef, undef, .agg #[.slice none 0 0, .slice none 0 0, .int .i64 0, .int .i64 0], .slice (some ⟨base, 0, none⟩) 1 1, .agg #[.slice (some ⟨base, 0, none⟩) 1 1, .int .i64 0, .bool false, .bool false, .bool false, .bool false, .bool false, .bool false, .bool false, .bool false, .bool false, .bool false, .int .i64 0], .pointer (some ⟨g, 0, none⟩), .string s, .func (.func 32) #[] #[.pointer (some ⟨Bn, 0, none⟩)], .agg x.cells, undef, undef, undef, undef, undef, undef, undef, undef, undef, undef, undef, undef, undef, undef, undef, undef, undef, undef, undef, undef, undef, undef, undef, undef, undef, undef, undef, undef, undef, undef], defers := [] } ∧ W.heap[Bx]? = some (.cells x.cells 67 (0, 0)) ∧ (∃ p, stP p0 pre = some p ∧ IsP base W g p) ∧ Bel base W1 W)
  ?ia ?ip ?ixp ?ap ?seq ⟨⟨p0, rfl, hP1.out.1⟩, Bel.refl _ _⟩ ?assign ?body ?done ?stop
 case kpb =>
  intro W l o o' hl hc k c hk
  refine (World.putObj_heap_other ?_).trans hk
  rintro rfl
  rw [hk] at hl
  cases hl
  cases hc
 case ia =>
  rintro pre W W' ⟨⟨p, hp, hP⟩, hB⟩ hb
  exact ⟨⟨p, hp, hP.below hb⟩, hB.trans (Bel.of_below hb hP.2.2.1)⟩
 case ip =>
  rintro pre W l o o' hlb hl hc ⟨⟨p, hp, hP⟩, hB⟩
  exact ⟨⟨p, hp, hP.turn hl hc⟩, hB.turn (by have := hNE.out; have := hP1.out.2.2.2.2.2.2; omega) hlb hl hc⟩
 case ixp =>
  rintro pre W l o o' hlb hl hc ⟨e, a, hr, h2, h3, hB⟩
  have hne : ∀ {k : Nat} {c : Array Value} {t : TypeId}, W.heap[k]? = some (.cells c t (0, 0)) → (W.putObj l o').heap[k]? = some (.cells c t (0, 0)) := fun {k c t} hk => by
   refine (World.putObj_heap_other ?_).trans hk
   rintro rfl
   rw [hk] at hl
   cases hl
   cases hc
  exact ⟨e, a, hr, hne h2, hne h3, hB.grown (grownBy_putObj' W l o') hB.size (fun k e => by cases e; have := hP1.out.2.2.2.2.2.2; omega)⟩
 case ap =>
  rintro pre x a' W l o o' hlb hl hc ⟨Bx, ha, hx, ⟨p, hp, hP⟩, hB⟩
  refine ⟨Bx, ha, (World.putObj_heap_other ?_).trans hx, ⟨p, hp, hP.turn hl hc⟩, hB.turn (by have := hNE.out; have := hP1.out.2.2.2.2.2.2; omega) hlb hl hc⟩
  rintro rfl
  rw [hx] at hl
  cases hl
  cases hc
 case seq =>
  intro l J Jx W hJI hJb hY h0
  refine tokens1_in 2 (by omega) l Bn s k L J Jx (fun pre W hJ => ?_) hJb hY W N HL.out h0
  obtain ⟨⟨p, hp, hP⟩, hB⟩ := hJI pre W hJ
  exact ⟨hB.2.cells (by decide) (by decide) (by decide) (by decide) hP1.out.2.2.1, HM.out.below (hP1.out.2.2.2.2.2.1.trans (hB.1.mono (by have := hNE.out; omega)))⟩
 case assign =>
  rintro l pre x W K hpx ⟨⟨p, hp, hP⟩, hB⟩ hK
  have hu67 := hu
  simp only [Tok.cells] at hK ⊢
  gi_wp2
  refine hK _ _ (KeepsOthers.alloc _ _) ?_ ⟨W.heap.size, rfl, World.alloc_heap_new W _, ⟨p, hp, hP.below (qa6 (Below.refl _ _) _)⟩, hB.trans (Bel.of_below (qa6 (Below.refl _ _) _) hP.2.2.1)⟩
  exact fun b c hb => qa3 hb _
 case body =>
  rintro l pre x a' W hpx ⟨Bx, rfl, hx, ⟨p, hp, hP⟩, hB⟩
  obtain ⟨⟨rv, q⟩, hr, hq0, hq1⟩ := runP_at HRes.out hpx hp
  have hcells : x.cells = #[.int .i64 x.k, .int .i64 x.a, .int .u64 x.s0, .int .u64 x.s1, .int .u64 x.s2, .int .u64 x.s3, .int .i64 x.lo, .int .i64 x.hi, .int .i64 x.e] := rfl
  rw [hcells] at hx ⊢
  have x0 : W.cell? ⟨Bx, 0, none⟩ = some (.int .i64 x.k) := (qa2 hx 0).trans rfl
  have x1 : W.cell? ⟨Bx, 1, none⟩ = some (.int .i64 x.a) := (qa2 hx 1).trans rfl
  have x2 : W.cell? ⟨Bx, 2, none⟩ = some (.int .u64 x.s0) := (qa2 hx 2).trans rfl
  have x3 : W.cell? ⟨Bx, 3, none⟩ = some (.int .u64 x.s1) := (qa2 hx 3).trans rfl
  have x4 : W.cell? ⟨Bx, 4, none⟩ = some (.int .u64 x.s2) := (qa2 hx 4).trans rfl
  have x5 : W.cell? ⟨Bx, 5, none⟩ = some (.int .u64 x.s3) := (qa2 hx 5).trans rfl
  have x6 : W.cell? ⟨Bx, 6, none⟩ = some (.int .i64 x.lo) := (qa2 hx 6).trans rfl
  have x7 : W.cell? ⟨Bx, 7, none⟩ = some (.int .i64 x.hi) := (qa2 hx 7).trans rfl
  have x8 : W.cell? ⟨Bx, 8, none⟩ = some (.int .i64 x.e) := (qa2 hx 8).trans rfl
  have k4 : W.cell? ⟨Bp, 0, none⟩ = some (.pointer (some ⟨g, 0, none⟩)) := (qa2 (hB.2.cells (by decide) (by decide) (by decide) (by decide) hP1.out.2.1) 0).trans rfl
  have HX := qa0.mk hx
  have HR := qa0.mk hr
  have HPP := qa0.mk hP
  have HB := qa0.mk hB
  have HQ := qa0.mk (And.intro hq0 hq1)
  clear hx hr hP hB hq0 hq1 hcells hp
  by_cases c : rv = 0
  ·have cb : (rv != 0) = false := by rw [c]; rfl
   gi_wp2_with (refine ⟨trivial, ?_⟩; gi_at_call 26; refine (CallsIn.inRound l (callsIn_wide.2 (qfu base g p q x.k x.a x.s0 x.s1 x.s2 x.s3 x.lo x.hi x.e rv HR.out W HPP.out))).mono ?_; rintro e w' ⟨rfl, hP', hBel⟩)
   exact ⟨hBel.2.others hBel.1.size, fun b c hb => hBel.2.cells (by decide) (by decide) (by decide) (by decide) hb, ⟨q, HQ.out.1 c, hP'⟩, HB.out.trans hBel⟩
  ·have cb : (rv != 0) = true := bne_iff_ne.2 c
   gi_wp2_with (refine ⟨trivial, ?_⟩; gi_at_call 26; refine (CallsIn.inRound l (callsIn_wide.2 (qfu base g p q x.k x.a x.s0 x.s1 x.s2 x.s3 x.lo x.hi x.e rv HR.out W HPP.out))).mono ?_; rintro e w' ⟨rfl, hP', hBel⟩)
   have hx3 := hBel.2.cells (by decide) (by decide) (by decide) (by decide) HX.out
   have y1 : w'.cell? ⟨Bx, 1, none⟩ = some (.int .i64 x.a) := (qa2 hx3 1).trans rfl
   have hB3 := HB.out.trans hBel
   have hr2 : w'.heap[w.heap.size]? = some (.cells zR 27 (0, 0)) := (hB3.1.block _ (by have := hNE.out; omega)).trans hP1.out.2.2.2.1
   have hr3 : w'.heap[w.heap.size + 1]? = some (.cells #[.int .i64 0, .int .i64 0] 30 (0, 0)) := (hB3.1.block _ (by have := hNE.out; omega)).trans hP1.out.2.2.2.2.1
   have z0 : w'.cell? ⟨w.heap.size, 0, none⟩ = some (.int .i64 0) := (qa2 hr2 0).trans rfl
   have v0 : w'.frozen? ⟨w.heap.size, 0, none⟩ = false := qa1 hr2 0
   have z1 : w'.cell? ⟨w.heap.size, 1, none⟩ = some (.int .u64 0) := (qa2 hr2 1).trans rfl
   have v1 : w'.frozen? ⟨w.heap.size, 1, none⟩ = false := qa1 hr2 1
   have z2 : w'.cell? ⟨w.heap.size, 2, none⟩ = some (.int .u64 0) := (qa2 hr2 2).trans rfl
   have v2 : w'.frozen? ⟨w.heap.size, 2, none⟩ = false := qa1 hr2 2
   have z3 : w'.cell? ⟨w.heap.size, 3, none⟩ = some (.int .u64 0) := (qa2 hr2 3).trans rfl
   have v3 : w'.frozen? ⟨w.heap.size, 3, none⟩ = false := qa1 hr2 3
   have z4 : w'.cell? ⟨w.heap.size, 4, none⟩ = some (.int .u64 0) := (qa2 hr2 4).trans rfl
   have v4 : w'.frozen? ⟨w.heap.size, 4, none⟩ = false := qa1 hr2 4
   have z5 : w'.cell? ⟨w.heap.size, 5, none⟩ = some (.int .i64 0) := (qa2 hr2 5).trans rfl
   have v5 : w'.frozen? ⟨w.heap.size, 5, none⟩ = false := qa1 hr2 5
   have z6 : w'.cell? ⟨w.heap.size, 6, none⟩ = some (.int .i64 0) := (qa2 hr2 6).trans rfl
   have v6 : w'.frozen? ⟨w.heap.size, 6, none⟩ = false := qa1 hr2 6
   have z7 : w'.cell? ⟨w.heap.size, 7, none⟩ = some (.int .i64 0) := (qa2 hr2 7).trans rfl
   have v7 : w'.frozen? ⟨w.heap.size, 7, none⟩ = false := qa1 hr2 7
   have z8 : w'.cell? ⟨w.heap.size, 8, none⟩ = some (.slice none 0 0) := (qa2 hr2 8).trans rfl
   have v8 : w'.frozen? ⟨w.heap.size, 8, none⟩ = false := qa1 hr2 8
   have t0 : w'.cell? ⟨w.heap.size + 1, 0, none⟩ = some (.int .i64 0) := (qa2 hr3 0).trans rfl
   have u0 : w'.frozen? ⟨w.heap.size + 1, 0, none⟩ = false := qa1 hr3 0
   have t1 : w'.cell? ⟨w.heap.size + 1, 1, none⟩ = some (.int .i64 0) := (qa2 hr3 1).trans rfl
   have u1 : w'.frozen? ⟨w.heap.size + 1, 1, none⟩ = false := qa1 hr3 1
   have hBz : (Bx = w.heap.size) = False := eq_false (qdz HX.out (HB.out.1.block _ (by have := hNE.out; omega) |>.trans hP1.out.2.2.2.1) (by decide))
   have hBy : (w.heap.size = Bx) = False := eq_false (fun e => (of_eq_false hBz) e.symm)
   have hmx : Try.prog.follows .mixedOrders = true := by kernel_rfl
   have HBel := qa0.mk hBel
   have HB3 := qa0.mk hB3
   have HR2 := qa0.mk hr2
   have HR3 := qa0.mk hr3
   clear hP' hBel hx3 hB3 hr2 hr3
   refine region_round hmx ?_ ?_
   ·rintro (_ | _ | _ | _ | _ | _ | _ | i) o ho c hc
    all_goals (cases ho; try cases hc)
   refine wpAny_take (i := 0) (v := ?v0) rfl (by kernel_rfl) (by kernel_rfl) (by kernel_rfl) (fun _ _ _ h => h) (Or.inl ⟨by rfl, ?y0⟩) ?r0
   case y0 => (intro w; go_simp; try with_reducible rfl)
   case r0 =>
   refine wpAny_take (i := 1) (v := ?v1) rfl (by kernel_rfl) (by kernel_rfl) (by kernel_rfl) (fun _ _ _ h => h) (Or.inl ⟨by rfl, ?y1⟩) ?r1
   case y1 => (intro w; go_simp; try with_reducible rfl)
   case r1 =>
   refine wpAny_take (i := 2) (v := ?v2) rfl (by kernel_rfl) (by kernel_rfl) (by kernel_rfl) (fun _ _ _ h => h) (Or.inl ⟨by rfl, ?y2⟩) ?r2
   case y2 => (intro w; go_simp; try with_reducible rfl)
   case r2 =>
   refine wpAny_ready (rs := [3, 5]) (by kernel_rfl) (by simp) ?_
   refine AllReady.cons rfl (fun K hK => ?_) (AllReady.cons rfl (fun K hK => ?_) AllReady.nil)
   ·go_simp
    refine hK _ _ ?_
    clear hK K
    refine wpAny_take (i := 4) (v := ?v4) rfl (by kernel_rfl) (by kernel_rfl) (by kernel_rfl) (fun _ _ _ h => h) (Or.inl ⟨by rfl, ?y4⟩) ?r4
    case y4 => (intro w; go_simp; try with_reducible rfl)
    case r4 =>
    refine wpAny_ready (rs := [5]) (by kernel_rfl) (by simp) ?_
    refine AllReady.cons rfl (fun K hK => ?_) AllReady.nil
    go_simp
    refine hK _ _ ?_
    clear hK K
    refine wpAny_ready (rs := [6]) (by kernel_rfl) (by simp) ?_
    refine AllReady.cons rfl (fun K hK => ?_) AllReady.nil
    go_simp
    refine hK _ _ ?_
    clear hK K
    refine wpAny_done (by kernel_rfl) ?_ _
    gi_wp2
    obtain ⟨e1, e2, e3, e4, e5, e6⟩ := ends_ (W := w') (v := .slice none 0 0) (e := rv) (a := x.a) HR2.out HR3.out
    obtain ⟨X, hX⟩ : ∃ X, ends w' w.heap.size (.slice none 0 0) rv x.a = X := ⟨_, rfl⟩
    rw [hX] at e1 e2 e3 e4 e5 e6
    unfold ends at hX
    rw [hX]
    clear hX
    exact ⟨(HBel.out.2.others HBel.out.1.size).trans (e5.trans (KeepsOthers.drew X)), rv, x.a, HQ.out.2 c, e1, e2, ((hP1.out.2.2.2.2.2.1.trans (HB3.out.1.mono (by have := hNE.out; omega))).trans e4).drew⟩
   ·go_simp
    refine hK _ _ ?_
    clear hK K
    refine wpAny_ready (rs := [3]) (by kernel_rfl) (by simp) ?_
    refine AllReady.cons rfl (fun K hK => ?_) AllReady.nil
    go_simp
    refine hK _ _ ?_
    clear hK K
    refine wpAny_take (i := 4) (v := ?v5) rfl (by kernel_rfl) (by kernel_rfl) (by kernel_rfl) (fun _ _ _ h => h) (Or.inl ⟨by rfl, ?y5⟩) ?r5
    case y5 => (intro w; go_simp; try with_reducible rfl)
    case r5 =>
    refine wpAny_ready (rs := [6]) (by kernel_rfl) (by simp) ?_
    refine AllReady.cons rfl (fun K hK => ?_) AllReady.nil
    go_simp
    refine hK _ _ ?_
    clear hK K
    refine wpAny_done (by kernel_rfl) ?_ _
    gi_wp2
    obtain ⟨e1, e2, e3, e4, e5, e6⟩ := ends_ (W := w') (v := .slice none 0 0) (e := rv) (a := x.a) HR2.out HR3.out
    obtain ⟨X, hX⟩ : ∃ X, ends w' w.heap.size (.slice none 0 0) rv x.a = X := ⟨_, rfl⟩
    rw [hX] at e1 e2 e3 e4 e5 e6
    unfold ends at hX
    rw [hX]
    clear hX
    exact ⟨(HBel.out.2.others HBel.out.1.size).trans (e5.trans (KeepsOthers.drew X)), rv, x.a, HQ.out.2 c, e1, e2, ((hP1.out.2.2.2.2.2.1.trans (HB3.out.1.mono (by have := hNE.out; omega))).trans e4).drew⟩
 case done =>
  rintro D W hD ⟨⟨p, hp, hP⟩, hB⟩ hK
  have hrun : runP p0 L = some (.inr p) := by
   have := qi6 L [] hp
   rw [List.append_nil] at this
   exact this
  obtain rfl : res = .inr p := Option.some.inj (HRes.out.symm.trans hrun)
  have hA := HA.out
  have hr2 : W.heap[w.heap.size]? = some (.cells zR 27 (0, 0)) := (hB.1.block _ (by have := hNE.out; omega)).trans hP1.out.2.2.2.1
  have hr3 : W.heap[w.heap.size + 1]? = some (.cells #[.int .i64 0, .int .i64 0] 30 (0, 0)) := (hB.1.block _ (by have := hNE.out; omega)).trans hP1.out.2.2.2.2.1
  have k4 : W.cell? ⟨Bp, 0, none⟩ = some (.pointer (some ⟨g, 0, none⟩)) := (qa2 (hB.2.cells (by decide) (by decide) (by decide) (by decide) hP1.out.2.1) 0).trans rfl
  obtain ⟨hl10, hbg, hbW, v, rs, ok, hg, hR, hS⟩ := hP
  have hlen := hS.len
  have hpos : 0 < rs.length := by
   cases hf : p.fs with
   | nil =>
    rw [ansP, hf] at hA
    cases hA
   | cons f fs =>
    rw [hlen, hf]
    exact Nat.succ_pos _
  obtain ⟨F, c, FC, rfl, hc, hbF, hF, -⟩ := qd5 hR (by rw [List.length_reverse]; exact hpos)
  rw [List.length_reverse] at hg hR
  match hf : p.fs, rs, hS with
  | [], [], _ => exact absurd hpos (Nat.lt_irrefl 0)
  | [f], r0 :: r1 :: rs, ⟨_, _, _, _, _, _, _, _, _, h⟩ => exact h.elim
  | f :: f2 :: fs, [r0], ⟨_, _, _, _, _, _, _, _, _, h⟩ => exact h.elim
  | [f], [r0], ⟨hrg, hra, oA, oB, h1, h2, h3, hk, hi, hS'⟩ =>
   rw [ansP, hf] at hA
   cases hA
   have hg0 : W.cell? ⟨g, 0, none⟩ = some (.slice (some ⟨F, 0, none⟩) 1 c) := (qa2 hg 0).trans rfl
   obtain ⟨A0, c0, hv0⟩ := Kd.qdb hk
   have hcF : W.cell? ⟨F, 0, none⟩ = some (.slice A0 f.f0.length c0) := by
    obtain ⟨cs, hcl, hM, hcc, -⟩ := Kd.qei (Kd.qdx hR) r0 0 (by omega) (by rw [List.length_singleton]; decide)
    obtain ⟨rfl, -, -⟩ := hM
    have a0 := hcc 0 r0.v0 rfl
    rw [hv0] at a0
    exact a0
   have z0 : W.cell? ⟨w.heap.size, 0, none⟩ = some (.int .i64 0) := (qa2 hr2 0).trans rfl
   have v0 : W.frozen? ⟨w.heap.size, 0, none⟩ = false := qa1 hr2 0
   have z1 : W.cell? ⟨w.heap.size, 1, none⟩ = some (.int .u64 0) := (qa2 hr2 1).trans rfl
   have v1 : W.frozen? ⟨w.heap.size, 1, none⟩ = false := qa1 hr2 1
   have z2 : W.cell? ⟨w.heap.size, 2, none⟩ = some (.int .u64 0) := (qa2 hr2 2).trans rfl
   have v2 : W.frozen? ⟨w.heap.size, 2, none⟩ = false := qa1 hr2 2
   have z3 : W.cell? ⟨w.heap.size, 3, none⟩ = some (.int .u64 0) := (qa2 hr2 3).trans rfl
   have v3 : W.frozen? ⟨w.heap.size, 3, none⟩ = false := qa1 hr2 3
   have z4 : W.cell? ⟨w.heap.size, 4, none⟩ = some (.int .u64 0) := (qa2 hr2 4).trans rfl
   have v4 : W.frozen? ⟨w.heap.size, 4, none⟩ = false := qa1 hr2 4
   have z5 : W.cell? ⟨w.heap.size, 5, none⟩ = some (.int .i64 0) := (qa2 hr2 5).trans rfl
   have v5 : W.frozen? ⟨w.heap.size, 5, none⟩ = false := qa1 hr2 5
   have z6 : W.cell? ⟨w.heap.size, 6, none⟩ = some (.int .i64 0) := (qa2 hr2 6).trans rfl
   have v6 : W.frozen? ⟨w.heap.size, 6, none⟩ = false := qa1 hr2 6
   have z7 : W.cell? ⟨w.heap.size, 7, none⟩ = some (.int .i64 0) := (qa2 hr2 7).trans rfl
   have v7 : W.frozen? ⟨w.heap.size, 7, none⟩ = false := qa1 hr2 7
   have z8 : W.cell? ⟨w.heap.size, 8, none⟩ = some (.slice none 0 0) := (qa2 hr2 8).trans rfl
   have v8 : W.frozen? ⟨w.heap.size, 8, none⟩ = false := qa1 hr2 8
   have t0 : W.cell? ⟨w.heap.size + 1, 0, none⟩ = some (.int .i64 0) := (qa2 hr3 0).trans rfl
   have u0 : W.frozen? ⟨w.heap.size + 1, 0, none⟩ = false := qa1 hr3 0
   have t1 : W.cell? ⟨w.heap.size + 1, 1, none⟩ = some (.int .i64 0) := (qa2 hr3 1).trans rfl
   have u1 : W.frozen? ⟨w.heap.size + 1, 1, none⟩ = false := qa1 hr3 1
   rw [hv0] at hk
   have HK := qa0.mk hk
   have HR2 := qa0.mk hr2
   have HR3 := qa0.mk hr3
   have HBB := qa0.mk hB
   have HD := qa0.mk hD
   have HDK := qa0.mk hK
   clear hp hB hr2 hr3 hS' hi hk hv0 hR hg hF hc hlen hpos hrun hl10 hra hrg h1 h2 h3 hD hK
   gi_wp2_with (refine ⟨trivial, ?_⟩; gi_at_call 27; refine (callsIn_wide.2 (qdd g F 1 c _ hg0 (by decide) (by decide))).mono ?_; rintro e w' ⟨rfl, nq, rfl⟩)
   obtain ⟨e1, e2, e3, e4, e5, e6⟩ := ends_ (W := W.drewN nq) (v := .slice A0 f.f0.length c0) (e := 0) (a := 0) HR2.out HR3.out
   obtain ⟨X, hX⟩ : ∃ X, ends (W.drewN nq) w.heap.size (.slice A0 f.f0.length c0) 0 0 = X := ⟨_, rfl⟩
   rw [hX] at e1 e2 e3 e4 e5 e6
   unfold ends at hX
   rw [hX]
   clear hX
   have hKX := e5.same _ _ HDK.out rfl
   refine ⟨by simp, .inl ⟨_, _, rfl, run_takeDeferred hKX, ?_⟩⟩
   have hne : ∀ {k : Nat} {c : Array Value} {t : TypeId}, X.heap[k]? = some (.cells c t (0, 0)) → (X.putObj D (.deferred none)).heap[k]? = X.heap[k]? := fun {k c t} hk => by
    refine World.putObj_heap_other ?_
    rintro rfl
    rw [hk] at hKX
    cases hKX
   refine ⟨_, qb3 (rs := [.cell 2 27, .cell 3 30]) rfl (by simp) (.cell w.heap.size _ _ (0, 0) _ rfl ((hne e1).trans e1) Try.underlying27 rfl (by kernel_rfl) (.cell (w.heap.size + 1) _ _ (0, 0) _ rfl ((hne e2).trans e2) Try.underlying30 rfl (by kernel_rfl) .nil)), ?_⟩
   have hBW : Below w.heap.size w (W.drewN nq) := qa7 (hP1.out.2.2.2.2.2.1.trans (HBB.out.1.mono (by have := hNE.out; omega))) nq
   refine ⟨(hBW.trans e4).grown (grownBy_putObj' X D (.deferred none)) (hBW.trans e4).size (fun k e => by cases e; have := hP1.out.2.2.2.2.2.2; have := HD.out; omega), _, rfl, ?_⟩
   have hR0 : k27.R 27 (W.drewN nq) base oA (.slice A0 f.f0.length c0) f.f0 := Kd.qbg HK.out (qa7 (Below.refl _ _) nq)
   refine Kd.qev (Kd.qbd (Kd.qe0 (Kd.qdc hR0) (fun k hk => ?_)) (fun k hk => ?_)) (show w.heap.size ≤ base by have := hNE.out; omega)
   ·obtain ⟨_, hb, _, q, _, cs, hcc⟩ := hk
    have hXk := e3 k (by have := hNE.out; omega) (by have := hNE.out; omega)
    exact (hne (hXk.trans hcc)).trans hXk
   ·obtain ⟨_, hb, _⟩ := hk
    have := hNE.out
    omega
  | f :: f2 :: fs, r0 :: r1 :: rs, ⟨hrg, hra, oA, oB, h1, h2, h3, hk, hi, hS'⟩ =>
   rw [ansP, hf] at hA
   have hfl : fs.length ≤ 1000 := by
    by_cases hq : fs.length ≤ 1000
    ·exact hq
    ·dsimp only at hA
     rw [if_neg hq] at hA
     cases hA
   dsimp only at hA
   rw [if_pos hfl] at hA
   cases hA
   obtain ⟨n, hn⟩ : ∃ n, (r0 :: r1 :: rs).length = n + 1 := ⟨_, rfl⟩
   have hnl : 0 < n ∧ n ≤ 1001 := by
    rw [hf, List.length_cons, List.length_cons, List.length_cons, List.length_cons] at hlen
    rw [List.length_cons, List.length_cons] at hn
    omega
   rw [hn] at hg hR
   have hr0 : (r0 :: r1 :: rs).reverse[n]? = some r0 := by
    rw [List.length_cons] at hn
    rw [List.reverse_cons, List.getElem?_append_right (by rw [List.length_reverse]; omega), List.length_reverse, show n - (r1 :: rs).length = 0 by omega]
    rfl
   obtain ⟨m, hm⟩ : ∃ m, n * 4 = m := ⟨_, rfl⟩
   have hcF : W.cell? ⟨F, m + 3, none⟩ = some (.int .i64 f.f3) := by
    obtain ⟨cs, hcl, hM, hcc, -⟩ := Kd.qei (Kd.qdx hR) r0 (n : Int) (by omega) (by omega)
    rw [Int.toNat_natCast, List.getD_eq_getElem?_getD, hr0] at hM
    obtain ⟨rfl, -, -⟩ := hM
    have a3 := hcc 3 (.int .i64 r0.a) rfl
    rw [Int.toNat_natCast, Nat.zero_add, show n * kRF.sz = m from hm] at a3
    rw [hra] at a3
    exact a3
   have hg0 : W.cell? ⟨g, 0, none⟩ = some (.slice (some ⟨F, 0, none⟩) (n + 1) c) := (qa2 hg 0).trans rfl
   obtain ⟨n1, hn1⟩ : ∃ n1, n + 1 = n1 := ⟨_, rfl⟩
   rw [hn1] at hg0
   have hcn : decide ((1 : Int) < (n1 : Int)) = true := decide_eq_true (by omega)
   have hFn : (F = w.heap.size) = False := eq_false (by have := hNE.out; omega)
   have hFm : (w.heap.size = F) = False := eq_false (by have := hNE.out; omega)
   have hFo : (F = w.heap.size + 1) = False := eq_false (by have := hNE.out; omega)
   have hFp : (w.heap.size + 1 = F) = False := eq_false (by have := hNE.out; omega)
   have hm1 : (n1 - 1) * 4 = m := by rw [← hn1, Nat.add_sub_cancel]; exact hm
   have z0 : W.cell? ⟨w.heap.size, 0, none⟩ = some (.int .i64 0) := (qa2 hr2 0).trans rfl
   have v0 : W.frozen? ⟨w.heap.size, 0, none⟩ = false := qa1 hr2 0
   have z1 : W.cell? ⟨w.heap.size, 1, none⟩ = some (.int .u64 0) := (qa2 hr2 1).trans rfl
   have v1 : W.frozen? ⟨w.heap.size, 1, none⟩ = false := qa1 hr2 1
   have z2 : W.cell? ⟨w.heap.size, 2, none⟩ = some (.int .u64 0) := (qa2 hr2 2).trans rfl
   have v2 : W.frozen? ⟨w.heap.size, 2, none⟩ = false := qa1 hr2 2
   have z3 : W.cell? ⟨w.heap.size, 3, none⟩ = some (.int .u64 0) := (qa2 hr2 3).trans rfl
   have v3 : W.frozen? ⟨w.heap.size, 3, none⟩ = false := qa1 hr2 3
   have z4 : W.cell? ⟨w.heap.size, 4, none⟩ = some (.int .u64 0) := (qa2 hr2 4).trans rfl
   have v4 : W.frozen? ⟨w.heap.size, 4, none⟩ = false := qa1 hr2 4
   have z5 : W.cell? ⟨w.heap.size, 5, none⟩ = some (.int .i64 0) := (qa2 hr2 5).trans rfl
   have v5 : W.frozen? ⟨w.heap.size, 5, none⟩ = false := qa1 hr2 5
   have z6 : W.cell? ⟨w.heap.size, 6, none⟩ = some (.int .i64 0) := (qa2 hr2 6).trans rfl
   have v6 : W.frozen? ⟨w.heap.size, 6, none⟩ = false := qa1 hr2 6
   have z7 : W.cell? ⟨w.heap.size, 7, none⟩ = some (.int .i64 0) := (qa2 hr2 7).trans rfl
   have v7 : W.frozen? ⟨w.heap.size, 7, none⟩ = false := qa1 hr2 7
   have z8 : W.cell? ⟨w.heap.size, 8, none⟩ = some (.slice none 0 0) := (qa2 hr2 8).trans rfl
   have v8 : W.frozen? ⟨w.heap.size, 8, none⟩ = false := qa1 hr2 8
   have t0 : W.cell? ⟨w.heap.size + 1, 0, none⟩ = some (.int .i64 0) := (qa2 hr3 0).trans rfl
   have u0 : W.frozen? ⟨w.heap.size + 1, 0, none⟩ = false := qa1 hr3 0
   have t1 : W.cell? ⟨w.heap.size + 1, 1, none⟩ = some (.int .i64 0) := (qa2 hr3 1).trans rfl
   have u1 : W.frozen? ⟨w.heap.size + 1, 1, none⟩ = false := qa1 hr3 1
   have HR2 := qa0.mk hr2
   have HR3 := qa0.mk hr3
   have HBB := qa0.mk hB
   have HD := qa0.mk hD
   have HDK := qa0.mk hK
   have HN1 := qa0.mk (And.intro hn1 hnl)
   clear hp hB hr2 hr3 hS' hi hk hR hg hF hc hlen hpos hrun hl10 hra hrg h1 h2 h3 hD hK hn hnl hr0 hm hn1 hfl
   gi_wp2
   refine wpIn_quit ?_
   refine wpIn_wide.2 ?_
   go_region_law (refine step_call (R := fun e w' => e = .returned (.pointer (some ⟨F, m, none⟩)) ∧ ∃ nq, w' = W.drew.drewN nq) rfl 27 #[.pointer (some ⟨g, 0, none⟩)] (by go_simp) ((qdd g F n1 c W.drew hg0 (by have := HN1.out; omega) (by have := HN1.out; omega)).mono (by rintro e w' ⟨rfl, q, rfl⟩; exact ⟨by rw [hm1], q, rfl⟩)) ?_; rintro e w' ⟨rfl, nq, rfl⟩; refine ⟨_, rfl, ?_⟩)
   all_goals gi_wp2
   all_goals
    obtain ⟨e1, e2, e3, e4, e5, e6⟩ := ends_ (W := W.drewN (1 + nq)) (v := .slice none 0 0) (e := 10) (a := f.f3) HR2.out HR3.out
    obtain ⟨X, hX⟩ : ∃ X, ends (W.drewN (1 + nq)) w.heap.size (.slice none 0 0) 10 f.f3 = X := ⟨_, rfl⟩
    rw [hX] at e1 e2 e3 e4 e5 e6
    unfold ends at hX
    rw [hX]
    clear hX
    have hKX := e5.same _ _ HDK.out rfl
    refine ⟨by simp, .inl ⟨_, _, rfl, run_takeDeferred hKX, ?_⟩⟩
    have hne : ∀ {k : Nat} {c : Array Value} {t : TypeId}, X.heap[k]? = some (.cells c t (0, 0)) → (X.putObj D (.deferred none)).heap[k]? = X.heap[k]? := fun {k c t} hk => by
     refine World.putObj_heap_other ?_
     rintro rfl
     rw [hk] at hKX
     cases hKX
    refine ⟨_, qb3 (rs := [.cell 2 27, .cell 3 30]) rfl (by simp) (.cell w.heap.size _ _ (0, 0) _ rfl ((hne e1).trans e1) Try.underlying27 rfl (by kernel_rfl) (.cell (w.heap.size + 1) _ _ (0, 0) _ rfl ((hne e2).trans e2) Try.underlying30 rfl (by kernel_rfl) .nil)), ?_⟩
    have hBW : Below w.heap.size w (W.drewN (1 + nq)) := qa7 (hP1.out.2.2.2.2.2.1.trans (HBB.out.1.mono (by have := hNE.out; omega))) (1 + nq)
    exact ⟨(hBW.trans e4).grown (grownBy_putObj' X D (.deferred none)) (hBW.trans e4).size (fun k e => by cases e; have := hP1.out.2.2.2.2.2.2; have := HD.out; omega), _, rfl, Kd.qfd _ _ _ _ _⟩
 case stop =>
  rintro D pre W hD hpre ⟨e, a, rfl, hr2, hr3, hB⟩ hK
  have hA := HA.out
  cases hA
  gi_wp2
  refine ⟨by simp, .inl ⟨_, _, rfl, run_takeDeferred hK, ?_⟩⟩
  have hne : ∀ {k : Nat} {c : Array Value} {t : TypeId}, W.heap[k]? = some (.cells c t (0, 0)) → (W.putObj D (.deferred none)).heap[k]? = some (.cells c t (0, 0)) := fun {k c t} hk => by
   refine (World.putObj_heap_other ?_).trans hk
   rintro rfl
   rw [hk] at hK
   cases hK
  refine ⟨_, qb3 (rs := [.cell 2 27, .cell 3 30]) rfl (by simp) (.cell w.heap.size _ _ (0, 0) _ rfl (hne hr2) Try.underlying27 rfl (by kernel_rfl) (.cell (w.heap.size + 1) _ _ (0, 0) _ rfl (hne hr3) Try.underlying30 rfl (by kernel_rfl) .nil)), ?_⟩
  exact ⟨hB.grown (grownBy_putObj' W D (.deferred none)) hB.size (fun k e => by cases e; have := hP1.out.2.2.2.2.2.2; omega), _, rfl, Kd.qfd _ _ _ _ _⟩
set_option maxHeartbeats 1000000 in
theorem parse_long (s : ByteArray) (hs : 512 < s.size) (w : World) :
  Calls Try.prog 12 #[.string s] w fun e w' => e = .returned (.tuple #[.agg (zRe (.slice none 0 0) 0), .agg #[.int .i64 2, .int .i64 0]]) ∧ Below w.heap.size w w' := by
 have hcl : decide ((512 : Int) < (s.size : Int)) = true := decide_eq_true (by omega)
 have huR := Try.underlying27
 have huF := Try.underlying30
 clear hs
 go_enter Try.func12, Try.ntmps12
 go_wp2
 generalize hX1 : w.alloc (.cells #[.int .i64 0, .int .u64 0, .int .u64 0, .int .u64 0, .int .u64 0, .int .i64 0, .int .i64 0, .int .i64 0, .slice none 0 0] 27) = X1
 have s1 : X1.heap.size = w.heap.size + 1 := by rw [← hX1, World.size_alloc]
 have hr2 : X1.heap[w.heap.size]? = some (.cells zR 27 (0, 0)) := by rw [← hX1]; exact qat _ _
 have hB0 : Below w.heap.size w X1 := by rw [← hX1]; exact qa6 (Below.refl _ _) _
 have hr3 : (X1.alloc (.cells #[.int .i64 2, .int .i64 0] 30)).heap[w.heap.size + 1]? = some (.cells #[.int .i64 2, .int .i64 0] 30 (0, 0)) := by rw [← s1]; exact qat _ _
 refine bodyPost_ret (qb3 (rs := [.cell 2 27, .cell 3 30]) rfl (by simp) (.cell w.heap.size _ _ (0, 0) _ rfl (qa3 hr2 _) Try.underlying27 rfl (by kernel_rfl) (.cell (w.heap.size + 1) _ _ (0, 0) _ rfl hr3 Try.underlying30 rfl (by kernel_rfl) .nil))) rfl ?_
 exact ⟨rfl, qa6 hB0 _⟩
def qf4 (k : Nat) (s : ByteArray) : Option (List S27 × Int × Int) :=
 if s.size ≤ 512 then (tokL k s (s.size + 1) 0 true true).bind fun L => (runP p0 L).bind ansP else some ([], 2, 0)
def qbw.f (k : Nat) (s : ByteArray) : Option (Int × Int × Int × Int × Int × Int × Int × Int × (List S27) × Int × Int) := (qf4 k s).map fun r => (0, 0, 0, 0, 0, 0, 0, 0, r.1, r.2.1, r.2.2)
theorem qil (k : Nat) (s : ByteArray) (xs : List S27) (e0 a0 : Int) (w : World) (hM : ML w) (h : qf4 k s = some (xs, e0, a0)) :
  Calls Try.prog 12 #[.string s] w fun e w' => ∃ v, e = .returned (.tuple #[.agg (zRe v 0), .agg #[.int .i64 e0, .int .i64 a0]]) ∧ k27.R 27 w' w.heap.size (fun k => w.heap.size ≤ k) v xs ∧ Below w.heap.size w w' := by
 unfold qf4 at h
 by_cases hs : s.size ≤ 512
 ·rw [if_pos hs] at h
  obtain ⟨L, hL, h⟩ := Option.bind_eq_some_iff.1 h
  obtain ⟨res, hr, h⟩ := Option.bind_eq_some_iff.1 h
  refine ((callsIn_wide (n := 3)).1 (parse_in s k _ L res xs e0 a0 hs hL hr h w hM)).mono ?_
  rintro e w' ⟨hB, v, he, hR⟩
  exact ⟨v, he, hR, hB⟩
 ·rw [if_neg hs] at h
  cases h
  refine (parse_long s (by omega) w).mono ?_
  rintro e w' ⟨rfl, hB⟩
  exact ⟨_, rfl, Kd.qfd _ _ _ _ _, hB⟩
theorem qbw.calls (k : Nat) (a0 : ByteArray) (r1 r2 r3 r4 r5 r6 r7 r8 : Int) (r9 : List S27) (r10 r11 : Int) (w : World) (hMD : ML w) (h : qbw.f k a0 = some (r1, r2, r3, r4, r5, r6, r7, r8, r9, r10, r11)) :
  Calls Try.prog 12 #[.string a0] w fun e w' => ∃ v, e = .returned (.tuple #[.agg #[.int .i64 r1, .int .u64 r2, .int .u64 r3, .int .u64 r4, .int .u64 r5, .int .i64 r6, .int .i64 r7, .int .i64 r8, v], .agg #[.int .i64 r10, .int .i64 r11]]) ∧ k27.R 27 w' w.heap.size (fun _ => True) v r9 ∧ Below w.heap.size w w' := by
 unfold qbw.f at h
 obtain ⟨⟨xs, e0, a0'⟩, hp, h⟩ := Option.map_eq_some_iff.1 h
 cases h
 exact (qil k a0 _ _ _ w hMD hp).mono (fun e w' ⟨v, h1, h2, h3⟩ => ⟨v, h1, Kd.qbd h2 (fun _ _ => trivial), h3⟩)
theorem tokL_mono (k : Nat) (s : ByteArray) : ∀ (n : Nat) (i : Int) (f b : Bool) (L : List Tok), tokL k s n i f b = some L → tokL (k + 1) s n i f b = some L
 | 0, _, _, _, _, h => by cases h
 | n + 1, i, f, b, L, h => by
  rw [tokL] at h ⊢
  by_cases ci : i < (s.size : Int)
  ·rw [if_pos ci] at h ⊢
   obtain ⟨r, hr, h⟩ := Option.bind_eq_some_iff.1 h
   have hr' : qb9.f (k + 1) s i f b = some r := qb9.mono s i f b k _ hr
   rw [hr', Option.bind_some]
   by_cases c7 : r.1 = 7
   ·rw [if_pos c7] at h ⊢
    exact h
   ·rw [if_neg c7] at h ⊢
    by_cases cn : i < r.2.2.2.2.2.2.2.2.2
    ·rw [if_pos cn] at h ⊢
     obtain ⟨z, hz, rfl⟩ := Option.map_eq_some_iff.1 h
     rw [tokL_mono k s n _ _ _ z hz]
     rfl
    ·rw [if_neg cn] at h
     cases h
  ·rw [if_neg ci] at h ⊢
   exact h
theorem parseR_mono (k : Nat) (s : ByteArray) (r : List S27 × Int × Int) (h : qf4 k s = some r) : qf4 (k + 1) s = some r := by
 unfold qf4 at h ⊢
 by_cases hs : s.size ≤ 512
 ·rw [if_pos hs] at h ⊢
  obtain ⟨L, hL, h⟩ := Option.bind_eq_some_iff.1 h
  rw [tokL_mono k s _ _ _ _ L hL, Option.bind_some]
  exact h
 ·rw [if_neg hs] at h ⊢
  exact h
theorem qbw.mono (a0 : ByteArray) (k : Nat) : LeO (qbw.f k a0) (qbw.f (k + 1) a0) := by
 intro r h
 unfold qbw.f at h ⊢
 obtain ⟨q, hq, rfl⟩ := Option.map_eq_some_iff.1 h
 rw [parseR_mono k a0 q hq]
 rfl
end Go.Proofs.Ytcmipoicnonaeaa.F
end
section
namespace Go.Proofs.Ytcmipoicnonaeaa.F
open Go.RowKit Go.Proofs.YtcmipoicnonaeaaW.PrintWords Go.Proofs.YtcmipoicnonaeaaW.PrintLast Go.Proofs.YtcmipoicnonaeaaW.PrintMore
attribute [local go_sem] qbs qbr qc7 qc0 qbh qbj qbp qbq
set_option linter.unusedVariables false
set_option linter.unusedSimpArgs false
theorem eqA30 (d : Nat) (w : World) (x0 y0 : Int) (x1 y1 : Int) :
    (Op.equalIn (d + 2) 30 (.agg #[.int .i64 x0, .int .i64 x1]) (.agg #[.int .i64 y0, .int .i64 y1])).run Try.prog w = .ok (x0 == y0 && (x1 == y1)) w := by
  refine eqA_of Try.underlying30 (by kernel_rfl) ?_
  refine eqf_cons (by rfl) (by go_simp; rfl) (by go_simp; rfl) (by go_simp) ?_
  exact eqf_last (by rfl) (by go_simp; rfl) (by go_simp; rfl) (by go_simp)
end Go.Proofs.Ytcmipoicnonaeaa.F
end
