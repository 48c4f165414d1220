/- Texts of this claim, 18 of 29: F38. -/

import Derived.Test.YtcmipoicnonaeaaKS7
import Derived.Test.YtcmipoicnonaeaaKS16
section
namespace Go.Proofs.Ytcmipoicnonaeaa.F
open Go.RowKit Go.Proofs.YtcmipoicnonaeaaW.PrintWords Go.Proofs.YtcmipoicnonaeaaW.PrintLast Go.Proofs.YtcmipoicnonaeaaW.PrintMore
attribute [local go_sem] qbs qbr qc7 qc0 qbh qbj qbp qbq
set_option linter.unusedVariables false
set_option linter.unusedSimpArgs false
def rep_T7 : Bool × List (List Nat × List Nat) := (true, [([], []), ([0], [0]), ([1], [1]), ([2], [2]), ([], []), ([], []), ([], []), ([], []), ([7], [7]), ([8], [8]), ([9], [9]), ([], []), ([10, 11], [10, 11]), ([12], [12]), ([13], [13]), ([5, 6, 14], [5, 6, 14]), ([3, 4, 0, 1, 2, 3, 4, 5, 6, 7, 8, 9, 10, 11, 12, 13, 14, 15], [3, 4]), ([16, 15, 0, 1, 2, 3, 4, 5, 6, 7, 8, 9, 10, 11, 12, 13, 14, 15], [15, 16])])
def rep_B7 : List Nat := [0, 1, 3, 7, 0, 0, 0, 0, 128, 384, 896, 0, 3968, 8064, 16256, 32736, 65535, 131071]
theorem qi7 : rtab .any (opsOf Try.f38 7) = rep_T7 := by kernel_rfl
theorem qh0 : qct rep_T7.2 rep_B7 = true := by kernel_rfl
def qcw (lo hi : Int) : Int := if hi < 0 then max lo 1 else hi
def repS (p : PS) (f : S59) (fs : List S59) (xs : List S27) (x : S27) (ns : List Int) (o lo hi : Int) : PS :=
 { p with fs := { f with f0 := xs ++ [newR lo hi x], f1 := ns ++ [wrap64 (o * qcw lo hi)] } :: fs, sz := wrap64 (p.sz + wrap64 (wrap64 (o * qcw lo hi) - o)) }
set_option maxHeartbeats 8000000 in
set_option maxRecDepth 100000 in
theorem qhy (base g : Nat) (p : PS) (f : S59) (fs : List S59) (hpf : p.fs = f :: fs) (xs : List S27) (x : S27) (ns : List Int) (o : Int) (hf0 : f.f0 = xs ++ [x]) (hf1 : f.f1 = ns ++ [o]) (hln : ns.length = xs.length) (lo hi : Int) (W : World) (h : IsP base W g p) (hl : xs.length ≤ 100000 ∧ fs.length ≤ 1000) :
  Calls Try.prog 38 #[.pointer (some ⟨g, 0, none⟩), .int .i64 lo, .int .i64 hi] W fun e w' => e = .returned (.int .i64 (if 256 < (repS p f fs xs x ns o lo hi).sz then 13 else 0)) ∧ IsP base w' g (repS p f fs xs x ns o lo hi) ∧ Bel base W w' := by
 obtain ⟨hl10, hbg, hbW, v, rs, ok, hg, hR, hS⟩ := h
 rw [hpf] at hS
 obtain ⟨r0, rs', rfl⟩ : ∃ r0 rs', rs = r0 :: rs' := by
  cases rs with
  | nil => exact hS.elim
  | cons a b => exact ⟨a, b, rfl⟩
 obtain ⟨hrg, hra, oA, oB, h1, h2, h3, hk, hi_, hS'⟩ := hS
 obtain ⟨F, c, FC, rfl, hc, hbF, hF, -⟩ := qd5 hR (by simp)
 obtain ⟨q, hq⟩ : ∃ q, rs'.length = q := ⟨_, rfl⟩
 have hrl : (r0 :: rs').reverse.length = q + 1 := by simp [hq]
 rw [hrl] at hR hc hg
 have hql : q = fs.length := by rw [← hq]; exact hS'.len
 have hr0 : (r0 :: rs').reverse[q]? = some r0 := by rw [List.reverse_cons, List.getElem?_append_right (by simp; omega)]; simp [hq]
 obtain ⟨n, hn⟩ : ∃ n, xs.length = n := ⟨_, rfl⟩
 rw [hf0] at hk
 rw [hf1] at hi_
 have hlx : (xs ++ [x]).length = n + 1 := by simp [hn]
 have hls : (ns ++ [o]).length = n + 1 := by simp [hln, hn]
 obtain ⟨K, c0, Kc, hv0, -, -, hhK, -⟩ := qd5 hk (by omega)
 obtain ⟨Sb, c1, Sc, hv1, -, -, hhS, -⟩ := qd5 hi_ (by omega)
 rw [hlx] at hv0
 rw [hls] at hv1
 obtain ⟨m, hm⟩ : ∃ m, q * 4 = m := ⟨_, rfl⟩
 have hcells : FC[m]? = some (.slice (some ⟨K, 0, none⟩) (n + 1) c0) ∧ FC[m + 1]? = some (.slice (some ⟨Sb, 0, none⟩) (n + 1) c1) := by
  obtain ⟨cs, hcl, hM, hcc, -⟩ := Kd.qei (Kd.qdx hR) r0 (q : Int) (by omega) (by omega)
  rw [Int.toNat_natCast, List.getD_eq_getElem?_getD, hr0] at hM
  obtain ⟨rfl, -, -⟩ := hM
  have a0 := hcc 0 r0.v0 rfl
  have a1 := hcc 1 r0.v1 rfl
  rw [qa2 hF, Int.toNat_natCast, Nat.zero_add, show q * kRF.sz = m from hm, hv0] at a0
  rw [qa2 hF, Int.toNat_natCast, Nat.zero_add, show q * kRF.sz = m from hm, hv1] at a1
  exact ⟨a0, a1⟩
 have hg0 : W.cell? ⟨g, 0, none⟩ = some (.slice (some ⟨F, 0, none⟩) (q + 1) c) := (qa2 hg 0).trans rfl
 have hso : W.cell? ⟨Sb, n, none⟩ = some (.int .i64 o) := by
  rw [hv1, ← hls] at hi_
  have hcell := (Kd.R_cell (0 : Int) hi_ (n : Int) (by omega) (by omega)).1
  rw [Int.toNat_natCast] at hcell
  have hrd : rdOf (0 : Int) (ns ++ [o]) (n : Int) = o := by simp [rdOf, List.getD_eq_getElem?_getD, hln, hn]
  rw [hrd] at hcell
  exact hcell
 obtain ⟨n1, hn1⟩ : ∃ n1, n + 1 = n1 := ⟨_, rfl⟩
 have hF0 : W.cell? ⟨F, m, none⟩ = some (.slice (some ⟨K, 0, none⟩) n1 c0) := by rw [← hn1]; exact (qa2 hF m).trans hcells.1
 have hF1 : W.cell? ⟨F, m + 1, none⟩ = some (.slice (some ⟨Sb, 0, none⟩) n1 c1) := by rw [← hn1]; exact (qa2 hF (m + 1)).trans hcells.2
 have hmw : IntKind.i64.wrap ((n1 : Int) - 1) = (n : Int) := by rw [qbk, qbt (by omega) (by omega)]; omega
 have p0 : (0 ≤ (n : Int)) = True := eq_true (by omega)
 have p1 : ((n : Int) < (n1 : Int)) = True := eq_true (by omega)
 have HG := qa0.mk hg
 have HR := qa0.mk hR
 have HK := qa0.mk hk
 have HI := qa0.mk hi_
 have HF := qa0.mk hF
 have HS := qa0.mk hS'
 have HL := qa0.mk hl
 have HCS := qa0.mk hcells
 have HO := qa0.mk (And.intro h1 (And.intro h2 h3))
 have HM := qa0.mk (And.intro hm (And.intro hq (And.intro hql (And.intro hn hn1))))
 have HB := qa0.mk (And.intro hbg (And.intro hbW hbF))
 have HH := qa0.mk (And.intro hhK hhS)
 have HLN := qa0.mk hln
 clear hg hR hk hi_ hS' hl hcells h1 h2 h3 hm hq hql hr0 hrl hbg hbW hbF hF hc hhK hhS hn hn1 hlx hls hln
 by_cases cc : hi < 0
 ·have cb : decide (hi < 0) = true := decide_eq_true cc
  replace cc := qa0.mk cc
  by_cases c1_ : 1 ≤ lo
  ·have m1 : (lo ≤ 1) = (lo = 1) := propext (by omega)
   have m2 : max lo 1 = lo := by omega
   have m3 : (1 ≤ lo) = True := eq_true c1_
   have m4 : decide (lo < 1) = false := decide_eq_false (by omega)
   have htm : qcw lo hi = lo := by unfold qcw; first | rw [if_pos cc.out]; omega | rw [if_neg (Int.not_lt.2 cc.out)] | rw [if_neg cc.out] | (rw [if_pos cc.out]; done)
   obtain ⟨rv, hrv⟩ : ∃ rv : Int, (if 256 < (repS p f fs xs x ns o lo hi).sz then (13 : Int) else 0) = rv := ⟨_, rfl⟩
   rw [hrv]
   unfold repS at hrv
   rw [htm] at hrv
   have HRV := qa0.mk hrv
   have HTM := qa0.mk htm
   clear hrv htm
   go_enter Try.func38, Try.ntmps38
   go_wp2_with (first | (go_at_call 27; refine (qdd g F (q + 1) c _ hg0 (by omega) (by have := HL.out; have := HM.out.2.2.1; omega)).mono ?_; rintro e' w2 ⟨rfl, mm, rfl⟩; rw [show q + 1 - 1 = q from rfl, HM.out.1]))
   refine qe1 (n := 18) (S := fun w' => True) (ds := []) #[false, false, false, false, false, false, false, false, false, false, false, false, false, false, false, false, false, false] (by kernel_rfl) rfl rfl trivial (fun hHeld => ?_)
   refine qd4 qi7 qh0 (fun HT_ HW_ => ?_)
   clear hg0 hF0 hF1 hso
   generalize hY : World.drew _ = Y at hHeld ⊢
   have HBY : qa0 (Below W.heap.size W Y) := by subst hY; exact ⟨by repeat (first | exact Below.refl _ _ | apply qa8 | apply qa7)⟩
   clear hY
   have HF2 := qa0.mk (qae HF.out HBY.out)
   have HG2 := qa0.mk (qae HG.out HBY.out)
   have HK2 := qa0.mk (Kd.qbg HK.out HBY.out)
   have HI2 := qa0.mk (Kd.qbg HI.out HBY.out)
   have HR2 := qa0.mk (Kd.qbg HR.out HBY.out)
   have HS2 := qa0.mk ((HS.out.step (fun k _ hk => HBY.out.block k hk)).bd)
   have HBb := qa0.mk (Nat.le_trans HB.out.2.1 HBY.out.size)
   have HK3 : qa0 (k27.R 27 Y base oA (.slice (some ⟨K, 0, none⟩) (n + 1) c0) (xs ++ [x])) := ⟨by rw [← hv0]; exact HK2.out⟩
   obtain ⟨A8, c8, hxc, hth, hRZ, hgZ⟩ := qi1 lo hi HK3.out HM.out.2.2.2.1 HBb.out
   have HXC := qa0.mk hxc
   have HTH := qa0.mk hth
   have HRZ := qa0.mk hRZ
   have HGZ := qa0.mk hgZ
   clear hxc hth hRZ hgZ HF HG HK HR HS
   refine qe6 [0, 1, 2, 3, 4, 5, 6, 7, 8, 9, 10, 11, 12, 13, 14, 15, 16, 17] (fun a0_ b_ a w' => ∃ (gz gy : Nat), (b_ 15 = true → gy = Y.heap.size) ∧ a = qb0 a0_ b_ [(0, 31, .pointer (some ⟨F, m, none⟩)), (1, 32, .pointer (some ⟨F, m, none⟩)), (2, 33, .pointer (some ⟨F, m, none⟩)), (3, 34, .slice (some ⟨K, 0, none⟩) n1 c0), (4, 35, .int .i64 (n : Int)), (5, 36, .int .i64 lo), (6, 37, .int .i64 hi), (7, 38, .pointer (some ⟨F, m, none⟩)), (8, 39, .pointer (some ⟨F, m, none⟩)), (9, 40, .pointer (some ⟨F, m, none⟩)), (10, 41, .slice (some ⟨K, 0, none⟩) n1 c0), (11, 42, .int .i64 (n : Int)), (12, 43, .pointer (some ⟨K, n * 9, none⟩)), (13, 44, .agg #[.int .i64 x.f0, .int .u64 x.f1.f0, .int .u64 x.f1.f1, .int .u64 x.f1.f2, .int .u64 x.f1.f3, .int .i64 x.f2, .int .i64 x.f3, .int .i64 x.f4, .slice A8 x.f5.length c8]), (14, 45, .slice (some ⟨gz, 0, none⟩) 1 1), (15, 46, .agg #[.int .i64 5, .int .u64 0, .int .u64 0, .int .u64 0, .int .u64 0, .int .i64 lo, .int .i64 hi, .int .i64 0, .slice (some ⟨gy, 0, none⟩) 1 1]), (16, 47, .pointer (some ⟨K, n * 9, none⟩))] ∧ (b_ 14 = false → b_ 17 = false ∧ w' = Y) ∧ (b_ 14 = true → gz = Y.heap.size ∧ (b_ 17 = false → w' = (Y.alloc (.cells #[.int .i64 x.f0, .int .u64 x.f1.f0, .int .u64 x.f1.f1, .int .u64 x.f1.f2, .int .u64 x.f1.f3, .int .i64 x.f2, .int .i64 x.f3, .int .i64 x.f4, .slice A8 x.f5.length c8] 27 (0, 0))))) ∧ (b_ 17 = true → w' = (Y.alloc (.cells #[.int .i64 x.f0, .int .u64 x.f1.f0, .int .u64 x.f1.f1, .int .u64 x.f1.f2, .int .u64 x.f1.f3, .int .i64 x.f2, .int .i64 x.f3, .int .i64 x.f4, .slice A8 x.f5.length c8] 27 (0, 0))).setCells K (n * 9) (newL lo hi Y.heap.size))) HT_.out HW_.out (by kernel_rfl) (by kernel_rfl) ?_ ?_ ?_
   ·exact ⟨0, 0, (fun h => by cases h), by simp only [qb0, Bool.false_eq_true, if_false], (fun _ => ⟨rfl, rfl⟩), (fun h => by cases h), (fun h => by cases h)⟩
   ·skip
    refine qab ?_ ?_
    ·rintro b_ a w' ⟨gz, gy, h15, ha, h14f, h14, h17⟩ hb_ hon hoff
     refine ⟨_, rfl, fun Kc hKc => ?_⟩
     have e7 : a.tmps[7]? = some (.pointer (some ⟨F, m, none⟩)) := by rw [ha]; exact (qb4 rfl).trans rfl
     replace ha := qa0.mk ha
     replace h14f := qa0.mk h14f
     replace h14 := qa0.mk h14
     replace h17 := qa0.mk h17
     refine qar (w1 := w') (v := .pointer (some ⟨F, m, none⟩)) (by rfl) rfl (by go_simp; try rfl) ?_
     exact hKc.out _ _ ⟨gz, gy, h15, by rw [ha.out]; exact qac 0 hb_ rfl rfl rfl, h14f.out, h14.out, h17.out⟩
    refine qab ?_ ?_
    ·rintro b_ a w' ⟨gz, gy, h15, ha, h14f, h14, h17⟩ hb_ hon hoff
     refine ⟨_, rfl, fun Kc hKc => ?_⟩
     have e31 : a.tmps[31]? = some (.pointer (some ⟨F, m, none⟩)) := by rw [ha]; exact qaf (e := (0, 31, .pointer (some ⟨F, m, none⟩))) 0 rfl rfl (hon 0 (by kernel_rfl)) rfl
     replace ha := qa0.mk ha
     replace h14f := qa0.mk h14f
     replace h14 := qa0.mk h14
     replace h17 := qa0.mk h17
     refine qar (w1 := w') (v := .pointer (some ⟨F, m, none⟩)) (by rfl) rfl (by go_simp; try rfl) ?_
     exact hKc.out _ _ ⟨gz, gy, h15, by rw [ha.out]; exact qac 1 hb_ rfl rfl rfl, h14f.out, h14.out, h17.out⟩
    refine qab ?_ ?_
    ·rintro b_ a w' ⟨gz, gy, h15, ha, h14f, h14, h17⟩ hb_ hon hoff
     refine ⟨_, rfl, fun Kc hKc => ?_⟩
     have e32 : a.tmps[32]? = some (.pointer (some ⟨F, m, none⟩)) := by rw [ha]; exact qaf (e := (1, 32, .pointer (some ⟨F, m, none⟩))) 1 rfl rfl (hon 1 (by kernel_rfl)) rfl
     replace ha := qa0.mk ha
     replace h14f := qa0.mk h14f
     replace h14 := qa0.mk h14
     replace h17 := qa0.mk h17
     refine qar (w1 := w') (v := .pointer (some ⟨F, m, none⟩)) (by rfl) rfl (by go_simp; try rfl) ?_
     exact hKc.out _ _ ⟨gz, gy, h15, by rw [ha.out]; exact qac 2 hb_ rfl rfl rfl, h14f.out, h14.out, h17.out⟩
    refine qab ?_ ?_
    ·rintro b_ a w' ⟨gz, gy, h15, ha, h14f, h14, h17⟩ hb_ hon hoff
     refine ⟨_, rfl, fun Kc hKc => ?_⟩
     have e33 : a.tmps[33]? = some (.pointer (some ⟨F, m, none⟩)) := by rw [ha]; exact qaf (e := (2, 33, .pointer (some ⟨F, m, none⟩))) 2 rfl rfl (hon 2 (by kernel_rfl)) rfl
     have hb17 := hoff 17 (by kernel_rfl)
     have hBw : Below Y.heap.size Y w' := by
      cases h14b : b_ 14 with
      | false => rw [(h14f h14b).2]; exact Below.refl _ _
      | true => rw [(h14 h14b).2 hb17]; exact qa6 (Below.refl _ _) _
     have hcF : w'.cell? ⟨F, m, none⟩ = some (.slice (some ⟨K, 0, none⟩) n1 c0) := by rw [← HM.out.2.2.2.2]; exact (qa2 (qae HF2.out hBw) m).trans HCS.out.1
     clear hBw
     replace ha := qa0.mk ha
     replace h14f := qa0.mk h14f
     replace h14 := qa0.mk h14
     replace h17 := qa0.mk h17
     refine qar (w1 := w') (v := .slice (some ⟨K, 0, none⟩) n1 c0) (by rfl) rfl (by go_simp; try rfl) ?_
     exact hKc.out _ _ ⟨gz, gy, h15, by rw [ha.out]; exact qac 3 hb_ rfl rfl rfl, h14f.out, h14.out, h17.out⟩
    refine qab ?_ ?_
    ·rintro b_ a w' ⟨gz, gy, h15, ha, h14f, h14, h17⟩ hb_ hon hoff
     refine ⟨_, rfl, fun Kc hKc => ?_⟩
     have e8 : a.tmps[8]? = some (.int .i64 (n : Int)) := by rw [ha]; exact (qb4 rfl).trans rfl
     replace ha := qa0.mk ha
     replace h14f := qa0.mk h14f
     replace h14 := qa0.mk h14
     replace h17 := qa0.mk h17
     refine qar (w1 := w') (v := .int .i64 (n : Int)) (by rfl) rfl (by go_simp; try rfl) ?_
     exact hKc.out _ _ ⟨gz, gy, h15, by rw [ha.out]; exact qac 4 hb_ rfl rfl rfl, h14f.out, h14.out, h17.out⟩
    refine qab ?_ ?_
    ·rintro b_ a w' ⟨gz, gy, h15, ha, h14f, h14, h17⟩ hb_ hon hoff
     refine ⟨_, rfl, fun Kc hKc => ?_⟩
     have e1 : a.tmps[1]? = some (.int .i64 lo) := by rw [ha]; exact (qb4 rfl).trans rfl
     replace ha := qa0.mk ha
     replace h14f := qa0.mk h14f
     replace h14 := qa0.mk h14
     replace h17 := qa0.mk h17
     refine qar (w1 := w') (v := .int .i64 lo) (by rfl) rfl (by go_simp; try rfl) ?_
     exact hKc.out _ _ ⟨gz, gy, h15, by rw [ha.out]; exact qac 5 hb_ rfl rfl rfl, h14f.out, h14.out, h17.out⟩
    refine qab ?_ ?_
    ·rintro b_ a w' ⟨gz, gy, h15, ha, h14f, h14, h17⟩ hb_ hon hoff
     refine ⟨_, rfl, fun Kc hKc => ?_⟩
     have e2 : a.tmps[2]? = some (.int .i64 hi) := by rw [ha]; exact (qb4 rfl).trans rfl
     replace ha := qa0.mk ha
     replace h14f := qa0.mk h14f
     replace h14 := qa0.mk h14
     replace h17 := qa0.mk h17
     refine qar (w1 := w') (v := .int .i64 hi) (by rfl) rfl (by go_simp; try rfl) ?_
     exact hKc.out _ _ ⟨gz, gy, h15, by rw [ha.out]; exact qac 6 hb_ rfl rfl rfl, h14f.out, h14.out, h17.out⟩
    refine qab ?_ ?_
    ·rintro b_ a w' ⟨gz, gy, h15, ha, h14f, h14, h17⟩ hb_ hon hoff
     refine ⟨_, rfl, fun Kc hKc => ?_⟩
     have e7 : a.tmps[7]? = some (.pointer (some ⟨F, m, none⟩)) := by rw [ha]; exact (qb4 rfl).trans rfl
     replace ha := qa0.mk ha
     replace h14f := qa0.mk h14f
     replace h14 := qa0.mk h14
     replace h17 := qa0.mk h17
     refine qar (w1 := w') (v := .pointer (some ⟨F, m, none⟩)) (by rfl) rfl (by go_simp; try rfl) ?_
     exact hKc.out _ _ ⟨gz, gy, h15, by rw [ha.out]; exact qac 7 hb_ rfl rfl rfl, h14f.out, h14.out, h17.out⟩
    refine qab ?_ ?_
    ·rintro b_ a w' ⟨gz, gy, h15, ha, h14f, h14, h17⟩ hb_ hon hoff
     refine ⟨_, rfl, fun Kc hKc => ?_⟩
     have e38 : a.tmps[38]? = some (.pointer (some ⟨F, m, none⟩)) := by rw [ha]; exact qaf (e := (7, 38, .pointer (some ⟨F, m, none⟩))) 7 rfl rfl (hon 7 (by kernel_rfl)) rfl
     replace ha := qa0.mk ha
     replace h14f := qa0.mk h14f
     replace h14 := qa0.mk h14
     replace h17 := qa0.mk h17
     refine qar (w1 := w') (v := .pointer (some ⟨F, m, none⟩)) (by rfl) rfl (by go_simp; try rfl) ?_
     exact hKc.out _ _ ⟨gz, gy, h15, by rw [ha.out]; exact qac 8 hb_ rfl rfl rfl, h14f.out, h14.out, h17.out⟩
    refine qab ?_ ?_
    ·rintro b_ a w' ⟨gz, gy, h15, ha, h14f, h14, h17⟩ hb_ hon hoff
     refine ⟨_, rfl, fun Kc hKc => ?_⟩
     have e39 : a.tmps[39]? = some (.pointer (some ⟨F, m, none⟩)) := by rw [ha]; exact qaf (e := (8, 39, .pointer (some ⟨F, m, none⟩))) 8 rfl rfl (hon 8 (by kernel_rfl)) rfl
     replace ha := qa0.mk ha
     replace h14f := qa0.mk h14f
     replace h14 := qa0.mk h14
     replace h17 := qa0.mk h17
     refine qar (w1 := w') (v := .pointer (some ⟨F, m, none⟩)) (by rfl) rfl (by go_simp; try rfl) ?_
     exact hKc.out _ _ ⟨gz, gy, h15, by rw [ha.out]; exact qac 9 hb_ rfl rfl rfl, h14f.out, h14.out, h17.out⟩
    refine qab ?_ ?_
    ·rintro b_ a w' ⟨gz, gy, h15, ha, h14f, h14, h17⟩ hb_ hon hoff
     refine ⟨_, rfl, fun Kc hKc => ?_⟩
     have e40 : a.tmps[40]? = some (.pointer (some ⟨F, m, none⟩)) := by rw [ha]; exact qaf (e := (9, 40, .pointer (some ⟨F, m, none⟩))) 9 rfl rfl (hon 9 (by kernel_rfl)) rfl
     have hb17 : b_ 17 = false := hoff 17 (by kernel_rfl)
     have hBw : Below Y.heap.size Y w' := by
      cases h14b : b_ 14 with
      | false => rw [(h14f h14b).2]; exact Below.refl _ _
      | true => rw [(h14 h14b).2 hb17]; exact qa6 (Below.refl _ _) _
     have hcF : w'.cell? ⟨F, m, none⟩ = some (.slice (some ⟨K, 0, none⟩) n1 c0) := by rw [← HM.out.2.2.2.2]; exact (qa2 (qae HF2.out hBw) m).trans HCS.out.1
     clear hBw
     replace ha := qa0.mk ha
     replace h14f := qa0.mk h14f
     replace h14 := qa0.mk h14
     replace h17 := qa0.mk h17
     refine qar (w1 := w') (v := .slice (some ⟨K, 0, none⟩) n1 c0) (by rfl) rfl (by go_simp; try rfl) ?_
     exact hKc.out _ _ ⟨gz, gy, h15, by rw [ha.out]; exact qac 10 hb_ rfl rfl rfl, h14f.out, h14.out, h17.out⟩
    refine qab ?_ ?_
    ·rintro b_ a w' ⟨gz, gy, h15, ha, h14f, h14, h17⟩ hb_ hon hoff
     refine ⟨_, rfl, fun Kc hKc => ?_⟩
     have e8 : a.tmps[8]? = some (.int .i64 (n : Int)) := by rw [ha]; exact (qb4 rfl).trans rfl
     replace ha := qa0.mk ha
     replace h14f := qa0.mk h14f
     replace h14 := qa0.mk h14
     replace h17 := qa0.mk h17
     refine qar (w1 := w') (v := .int .i64 (n : Int)) (by rfl) rfl (by go_simp; try rfl) ?_
     exact hKc.out _ _ ⟨gz, gy, h15, by rw [ha.out]; exact qac 11 hb_ rfl rfl rfl, h14f.out, h14.out, h17.out⟩
    refine qab ?_ ?_
    ·rintro b_ a w' ⟨gz, gy, h15, ha, h14f, h14, h17⟩ hb_ hon hoff
     refine ⟨_, rfl, fun Kc hKc => ?_⟩
     have e41 : a.tmps[41]? = some (.slice (some ⟨K, 0, none⟩) n1 c0) := by rw [ha]; exact qaf (e := (10, 41, .slice (some ⟨K, 0, none⟩) n1 c0)) 10 rfl rfl (hon 10 (by kernel_rfl)) rfl
     have e42 : a.tmps[42]? = some (.int .i64 (n : Int)) := by rw [ha]; exact qaf (e := (11, 42, .int .i64 (n : Int))) 11 rfl rfl (hon 11 (by kernel_rfl)) rfl
     replace ha := qa0.mk ha
     replace h14f := qa0.mk h14f
     replace h14 := qa0.mk h14
     replace h17 := qa0.mk h17
     refine qar (w1 := w') (v := .pointer (some ⟨K, n * 9, none⟩)) (by rfl) rfl (by go_simp; try rfl) ?_
     exact hKc.out _ _ ⟨gz, gy, h15, by rw [ha.out]; exact qac 12 hb_ rfl rfl rfl, h14f.out, h14.out, h17.out⟩
    refine qab ?_ ?_
    ·rintro b_ a w' ⟨gz, gy, h15, ha, h14f, h14, h17⟩ hb_ hon hoff
     refine ⟨_, rfl, fun Kc hKc => ?_⟩
     have e43 : a.tmps[43]? = some (.pointer (some ⟨K, n * 9, none⟩)) := by rw [ha]; exact qaf (e := (12, 43, .pointer (some ⟨K, n * 9, none⟩))) 12 rfl rfl (hon 12 (by kernel_rfl)) rfl
     have hb17 : b_ 17 = false := hoff 17 (by kernel_rfl)
     have hBw : Below Y.heap.size Y w' := by
      cases h14b : b_ 14 with
      | false => rw [(h14f h14b).2]; exact Below.refl _ _
      | true => rw [(h14 h14b).2 hb17]; exact qa6 (Below.refl _ _) _
     replace ha := qa0.mk ha
     replace h14f := qa0.mk h14f
     replace h14 := qa0.mk h14
     replace h17 := qa0.mk h17
     have hld : ∀ (j : Nat) (u : Value), ([.int .i64 x.f0, .int .u64 x.f1.f0, .int .u64 x.f1.f1, .int .u64 x.f1.f2, .int .u64 x.f1.f3, .int .i64 x.f2, .int .i64 x.f3, .int .i64 x.f4, .slice A8 x.f5.length c8] : List Value)[j]? = some u → w'.cell? ((⟨K, n * 9, none⟩ : Addr).add j) = some u := fun j u hu => by
      rw [Addr.add_mid]
      exact (hBw.cell (p := ⟨K, n * 9 + j, none⟩) (qam (qae HH.out.1 HBY.out))).trans (HXC.out j u hu)
     refine qar (w1 := w') (v := .agg #[.int .i64 x.f0, .int .u64 x.f1.f0, .int .u64 x.f1.f1, .int .u64 x.f1.f2, .int .u64 x.f1.f3, .int .i64 x.f2, .int .i64 x.f3, .int .i64 x.f4, .slice A8 x.f5.length c8]) (by rfl) rfl (qez 27 (.tmp 43) rfl ⟨K, n * 9, none⟩ (by simp only [Act.eval, Array.getD_eq_getD_getElem?, e43, Option.getD_some]) [.int .i64 x.f0, .int .u64 x.f1.f0, .int .u64 x.f1.f1, .int .u64 x.f1.f2, .int .u64 x.f1.f3, .int .i64 x.f2, .int .i64 x.f3, .int .i64 x.f4, .slice A8 x.f5.length c8] _ hld Try.underlying27 rfl (by kernel_rfl)) ?_
     exact hKc.out _ _ ⟨gz, gy, h15, by rw [ha.out]; exact qac 13 hb_ rfl rfl rfl, h14f.out, h14.out, h17.out⟩
    refine qab ?_ ?_
    ·rintro b_ a w' ⟨gz, gy, h15, ha, h14f, h14, h17⟩ hb_ hon hoff
     refine ⟨_, rfl, fun Kc hKc => ?_⟩
     have e44 : a.tmps[44]? = some (.agg #[.int .i64 x.f0, .int .u64 x.f1.f0, .int .u64 x.f1.f1, .int .u64 x.f1.f2, .int .u64 x.f1.f3, .int .i64 x.f2, .int .i64 x.f3, .int .i64 x.f4, .slice A8 x.f5.length c8]) := by rw [ha]; exact qaf (e := (13, 44, .agg #[.int .i64 x.f0, .int .u64 x.f1.f0, .int .u64 x.f1.f1, .int .u64 x.f1.f2, .int .u64 x.f1.f3, .int .i64 x.f2, .int .i64 x.f3, .int .i64 x.f4, .slice A8 x.f5.length c8])) 13 rfl rfl (hon 13 (by kernel_rfl)) rfl
     have hw := (h14f hb_).2
     have hb17 := (h14f hb_).1
     subst hw
     replace ha := qa0.mk ha
     replace h17 := qa0.mk h17
     refine qeq (w1 := w'.alloc (.cells #[.int .i64 x.f0, .int .u64 x.f1.f0, .int .u64 x.f1.f1, .int .u64 x.f1.f2, .int .u64 x.f1.f3, .int .i64 x.f2, .int .i64 x.f3, .int .i64 x.f4, .slice A8 x.f5.length c8] 27 (0, 0))) (v := .slice (some ⟨w'.heap.size, 0, none⟩) 1 1) (by rfl) (by go_simp; try rfl) ?_
     exact hKc.out _ _ ⟨w'.heap.size, gy, h15, by rw [ha.out]; exact qac 14 hb_ rfl rfl rfl, (fun h => by cases h), (fun _ => ⟨rfl, fun _ => rfl⟩), fun h => by rw [show up b_ 14 17 = b_ 17 from rfl, hb17] at h; cases h⟩
    refine qab ?_ ?_
    ·rintro b_ a w' ⟨gz, gy, h15, ha, h14f, h14, h17⟩ hb_ hon hoff
     refine ⟨_, rfl, fun Kc hKc => ?_⟩
     have e36 : a.tmps[36]? = some (.int .i64 lo) := by rw [ha]; exact qaf (e := (5, 36, .int .i64 lo)) 5 rfl rfl (hon 5 (by kernel_rfl)) rfl
     have e37 : a.tmps[37]? = some (.int .i64 hi) := by rw [ha]; exact qaf (e := (6, 37, .int .i64 hi)) 6 rfl rfl (hon 6 (by kernel_rfl)) rfl
     have e45 : a.tmps[45]? = some (.slice (some ⟨gz, 0, none⟩) 1 1) := by rw [ha]; exact qaf (e := (14, 45, .slice (some ⟨gz, 0, none⟩) 1 1)) 14 rfl rfl (hon 14 (by kernel_rfl)) rfl
     replace ha := qa0.mk ha
     replace h14f := qa0.mk h14f
     replace h14 := qa0.mk h14
     replace h17 := qa0.mk h17
     have hgz := (h14.out (hon 14 (by kernel_rfl))).1
     subst hgz
     refine qar (w1 := w') (v := .agg #[.int .i64 5, .int .u64 0, .int .u64 0, .int .u64 0, .int .u64 0, .int .i64 lo, .int .i64 hi, .int .i64 0, .slice (some ⟨Y.heap.size, 0, none⟩) 1 1]) (by rfl) rfl (by go_simp; try rfl) ?_
     exact hKc.out _ _ ⟨Y.heap.size, Y.heap.size, (fun _ => rfl), by rw [ha.out]; exact qac 15 hb_ rfl rfl rfl, h14f.out, h14.out, h17.out⟩
    refine qab ?_ ?_
    ·rintro b_ a w' ⟨gz, gy, h15, ha, h14f, h14, h17⟩ hb_ hon hoff
     refine ⟨_, rfl, fun Kc hKc => ?_⟩
     have e34 : a.tmps[34]? = some (.slice (some ⟨K, 0, none⟩) n1 c0) := by rw [ha]; exact qaf (e := (3, 34, .slice (some ⟨K, 0, none⟩) n1 c0)) 3 rfl rfl (hon 3 (by kernel_rfl)) rfl
     have e35 : a.tmps[35]? = some (.int .i64 (n : Int)) := by rw [ha]; exact qaf (e := (4, 35, .int .i64 (n : Int))) 4 rfl rfl (hon 4 (by kernel_rfl)) rfl
     replace ha := qa0.mk ha
     replace h14f := qa0.mk h14f
     replace h14 := qa0.mk h14
     replace h17 := qa0.mk h17
     refine qar (w1 := w') (v := .pointer (some ⟨K, n * 9, none⟩)) (by rfl) rfl (by go_simp; try rfl) ?_
     exact hKc.out _ _ ⟨gz, gy, h15, by rw [ha.out]; exact qac 16 hb_ rfl rfl rfl, h14f.out, h14.out, h17.out⟩
    refine qab ?_ ?_
    ·rintro b_ a w' ⟨gz, gy, h15, ha, h14f, h14, h17⟩ hb_ hon hoff
     refine ⟨_, rfl, fun Kc hKc => ?_⟩
     have e47 : a.tmps[47]? = some (.pointer (some ⟨K, n * 9, none⟩)) := by rw [ha]; exact qaf (e := (16, 47, .pointer (some ⟨K, n * 9, none⟩))) 16 rfl rfl (hon 16 (by kernel_rfl)) rfl
     have e46 : a.tmps[46]? = some (.agg #[.int .i64 5, .int .u64 0, .int .u64 0, .int .u64 0, .int .u64 0, .int .i64 lo, .int .i64 hi, .int .i64 0, .slice (some ⟨gy, 0, none⟩) 1 1]) := by rw [ha]; exact qaf (e := (15, 46, .agg #[.int .i64 5, .int .u64 0, .int .u64 0, .int .u64 0, .int .u64 0, .int .i64 lo, .int .i64 hi, .int .i64 0, .slice (some ⟨gy, 0, none⟩) 1 1])) 15 rfl rfl (hon 15 (by kernel_rfl)) rfl
     have hgy := h15 (hon 15 (by kernel_rfl))
     subst hgy
     have hw := (h14 (hon 14 (by kernel_rfl))).2 hb_
     subst hw
     have ev47 : a.eval (.tmp 47) = .pointer (some ⟨K, n * 9, none⟩) := by simp only [Act.eval, Array.getD_eq_getD_getElem?, e47, Option.getD_some]
     have ev46 : a.eval (.tmp 46) = .agg #[.int .i64 5, .int .u64 0, .int .u64 0, .int .u64 0, .int .u64 0, .int .i64 lo, .int .i64 hi, .int .i64 0, .slice (some ⟨Y.heap.size, 0, none⟩) 1 1] := by simp only [Act.eval, Array.getD_eq_getD_getElem?, e46, Option.getD_some]
     rw [if_pos (by rfl)]
     refine wp_store_mid 27 (.tmp 47) (.tmp 46) rfl K (n * 9) #[.int .i64 5, .int .u64 0, .int .u64 0, .int .u64 0, .int .u64 0, .int .i64 lo, .int .i64 hi, .int .i64 0, .slice (some ⟨Y.heap.size, 0, none⟩) 1 1] ev47 ev46 HTH.out (by kernel_rfl) (by simp [Value.oneCell']) ?_
     exact hKc.out _ _ ⟨gz, Y.heap.size, (fun _ => rfl), by rw [ha]; exact qex rfl, (fun h => by rw [show up b_ 17 14 = b_ 14 from rfl, hon 14 (by kernel_rfl)] at h; cases h), (fun _ => ⟨(h14 (hon 14 (by kernel_rfl))).1, fun h => by cases h⟩), fun _ => rfl⟩
    exact qd8
   ·rintro b_ a w' hall ⟨gz, gy, h15, ha, h14f, h14, h17⟩
    have hb0_ := hall 0 (by kernel_rfl)
    have hb1_ := hall 1 (by kernel_rfl)
    have hb2_ := hall 2 (by kernel_rfl)
    have hb3_ := hall 3 (by kernel_rfl)
    have hb4_ := hall 4 (by kernel_rfl)
    have hb5_ := hall 5 (by kernel_rfl)
    have hb6_ := hall 6 (by kernel_rfl)
    have hb7_ := hall 7 (by kernel_rfl)
    have hb8_ := hall 8 (by kernel_rfl)
    have hb9_ := hall 9 (by kernel_rfl)
    have hb10_ := hall 10 (by kernel_rfl)
    have hb11_ := hall 11 (by kernel_rfl)
    have hb12_ := hall 12 (by kernel_rfl)
    have hb13_ := hall 13 (by kernel_rfl)
    have hb14_ := hall 14 (by kernel_rfl)
    have hb15_ := hall 15 (by kernel_rfl)
    have hb16_ := hall 16 (by kernel_rfl)
    have hb17_ := hall 17 (by kernel_rfl)
    have hw := h17 hb17_
    subst ha
    simp only [qb0, hb0_, hb1_, hb2_, hb3_, hb4_, hb5_, hb6_, hb7_, hb8_, hb9_, hb10_, hb11_, hb12_, hb13_, hb14_, hb15_, hb16_, if_true, Act.put, List.setIfInBounds_toArray, List.set_cons_zero, List.set_cons_succ]
    clear hall h15 h14f h14 h17 hHeld HT_ HW_ hb0_ hb1_ hb2_ hb3_ hb4_ hb5_ hb6_ hb7_ hb8_ hb9_ hb10_ hb11_ hb12_ hb13_ hb14_ hb15_ hb16_ hb17_
    have hR1 := HRZ.out
    have hG1 := HGZ.out
    have hZ : ∀ k, k < Y.heap.size → k ≠ K → w'.heap[k]? = Y.heap[k]? := by
     intro k hk hne
     rw [hw]
     exact (hG1.block k (by simpa [World.size_alloc] using Nat.lt_succ_of_lt hk) (fun e => hne (by injection e))).trans (Below.heap_alloc Y _ k hk)
    have hZs : Y.heap.size ≤ w'.heap.size := by
     rw [hw]
     exact Nat.le_trans (by simp [World.size_alloc]) hG1.size
    have hbK : base ≤ K := by
     obtain ⟨K', c', cl', he, -, hb, -, -⟩ := qd5 HK3.out (by simp)
     injection he with e1 _ _; injection e1 with e1; injection e1 with e1 _ _; rw [e1]; exact hb
    have hZB : Below base Y w' := by
     rw [hw]
     exact (qca (Below.refl base Y) HBb.out (qa6 (Below.refl _ _) _)).grown hG1 (Nat.le_trans HBb.out (by simp [World.size_alloc])) (fun j e => by injection e with e; rw [← e]; exact hbK)
    have hRw : k27.R 27 w' base (fun k => oA k ∨ Y.heap.size ≤ k) (.slice (some ⟨K, 0, none⟩) (n + 1) c0) (xs ++ [newR lo hi x]) := by rw [hw]; exact hR1
    obtain ⟨hso, hsf, hIP, hBZ⟩ := qia (o := o) (o' := wrap64 (o * lo)) (n := n) (K := K) (Sb := Sb) (F := F) (c := c) (q := q) (b := 0) (f := f) (fs := fs) (ns := ns) hl10 HB.out.1 HBb.out HG2.out HR2.out hrg hra hv0 hv1 (by rw [hf0]; exact HK2.out) HI2.out (by rw [HLN.out]; exact HM.out.2.2.2.1) HS2.out HO.out.2.2 hZ hZs hZB hRw
    have hFK : F ≠ K := qdz HF2.out (qae HH.out.1 HBY.out) (by decide)
    have hF1 : w'.cell? ⟨F, m + 1, none⟩ = some (.slice (some ⟨Sb, 0, none⟩) n1 c1) := by rw [← HM.out.2.2.2.2]; exact (qa2 ((hZ F (qam HF2.out) hFK).trans HF2.out) (m + 1)).trans HCS.out.2
    have HIP := qa0.mk hIP
    have HBZ := qa0.mk hBZ
    clear hw hR1 hG1 hZ hZs hZB hRw hIP hBZ hFK hbK HXC HTH HRZ HGZ
    go_wp2_with (first | (go_at_call 35; refine (qe2 base g _ _ _ HIP.out rv HRV.out).mono ?_; rintro e' w6 ⟨rfl, hI6, hB6⟩; have HI6 := qa0.mk hI6; have HB6 := qa0.mk hB6; clear hI6 hB6))
    go_ret
    unfold repS
    rw [HTM.out]
    exact ⟨rfl, HI6.out, ((Bel.of_below HBY.out HB.out.2.1).trans HBZ.out).trans HB6.out⟩
  ·have m2 : max lo 1 = 1 := by omega
   have m3 : (1 ≤ lo) = False := eq_false c1_
   have m4 : decide (lo < 1) = true := decide_eq_true (by omega)
   have htm : qcw lo hi = 1 := by unfold qcw; first | rw [if_pos cc.out]; omega | rw [if_neg (Int.not_lt.2 cc.out)] | rw [if_neg cc.out] | (rw [if_pos cc.out]; done)
   obtain ⟨rv, hrv⟩ : ∃ rv : Int, (if 256 < (repS p f fs xs x ns o lo hi).sz then (13 : Int) else 0) = rv := ⟨_, rfl⟩
   rw [hrv]
   unfold repS at hrv
   rw [htm, Int.mul_one] at hrv
   have HRV := qa0.mk hrv
   have HTM := qa0.mk htm
   clear hrv htm
   go_enter Try.func38, Try.ntmps38
   go_wp2_with (first | (go_at_call 27; refine (qdd g F (q + 1) c _ hg0 (by omega) (by have := HL.out; have := HM.out.2.2.1; omega)).mono ?_; rintro e' w2 ⟨rfl, mm, rfl⟩; rw [show q + 1 - 1 = q from rfl, HM.out.1]))
   refine qe1 (n := 18) (S := fun w' => True) (ds := []) #[false, false, false, false, false, false, false, false, false, false, false, false, false, false, false, false, false, false] (by kernel_rfl) rfl rfl trivial (fun hHeld => ?_)
   refine qd4 qi7 qh0 (fun HT_ HW_ => ?_)
   clear hg0 hF0 hF1 hso
   generalize hY : World.drew _ = Y at hHeld ⊢
   have HBY : qa0 (Below W.heap.size W Y) := by subst hY; exact ⟨by repeat (first | exact Below.refl _ _ | apply qa8 | apply qa7)⟩
   clear hY
   have HF2 := qa0.mk (qae HF.out HBY.out)
   have HG2 := qa0.mk (qae HG.out HBY.out)
   have HK2 := qa0.mk (Kd.qbg HK.out HBY.out)
   have HI2 := qa0.mk (Kd.qbg HI.out HBY.out)
   have HR2 := qa0.mk (Kd.qbg HR.out HBY.out)
   have HS2 := qa0.mk ((HS.out.step (fun k _ hk => HBY.out.block k hk)).bd)
   have HBb := qa0.mk (Nat.le_trans HB.out.2.1 HBY.out.size)
   have HK3 : qa0 (k27.R 27 Y base oA (.slice (some ⟨K, 0, none⟩) (n + 1) c0) (xs ++ [x])) := ⟨by rw [← hv0]; exact HK2.out⟩
   obtain ⟨A8, c8, hxc, hth, hRZ, hgZ⟩ := qi1 lo hi HK3.out HM.out.2.2.2.1 HBb.out
   have HXC := qa0.mk hxc
   have HTH := qa0.mk hth
   have HRZ := qa0.mk hRZ
   have HGZ := qa0.mk hgZ
   clear hxc hth hRZ hgZ HF HG HK HR HS
   refine qe6 [0, 1, 2, 3, 4, 5, 6, 7, 8, 9, 10, 11, 12, 13, 14, 15, 16, 17] (fun a0_ b_ a w' => ∃ (gz gy : Nat), (b_ 15 = true → gy = Y.heap.size) ∧ a = qb0 a0_ b_ [(0, 31, .pointer (some ⟨F, m, none⟩)), (1, 32, .pointer (some ⟨F, m, none⟩)), (2, 33, .pointer (some ⟨F, m, none⟩)), (3, 34, .slice (some ⟨K, 0, none⟩) n1 c0), (4, 35, .int .i64 (n : Int)), (5, 36, .int .i64 lo), (6, 37, .int .i64 hi), (7, 38, .pointer (some ⟨F, m, none⟩)), (8, 39, .pointer (some ⟨F, m, none⟩)), (9, 40, .pointer (some ⟨F, m, none⟩)), (10, 41, .slice (some ⟨K, 0, none⟩) n1 c0), (11, 42, .int .i64 (n : Int)), (12, 43, .pointer (some ⟨K, n * 9, none⟩)), (13, 44, .agg #[.int .i64 x.f0, .int .u64 x.f1.f0, .int .u64 x.f1.f1, .int .u64 x.f1.f2, .int .u64 x.f1.f3, .int .i64 x.f2, .int .i64 x.f3, .int .i64 x.f4, .slice A8 x.f5.length c8]), (14, 45, .slice (some ⟨gz, 0, none⟩) 1 1), (15, 46, .agg #[.int .i64 5, .int .u64 0, .int .u64 0, .int .u64 0, .int .u64 0, .int .i64 lo, .int .i64 hi, .int .i64 0, .slice (some ⟨gy, 0, none⟩) 1 1]), (16, 47, .pointer (some ⟨K, n * 9, none⟩))] ∧ (b_ 14 = false → b_ 17 = false ∧ w' = Y) ∧ (b_ 14 = true → gz = Y.heap.size ∧ (b_ 17 = false → w' = (Y.alloc (.cells #[.int .i64 x.f0, .int .u64 x.f1.f0, .int .u64 x.f1.f1, .int .u64 x.f1.f2, .int .u64 x.f1.f3, .int .i64 x.f2, .int .i64 x.f3, .int .i64 x.f4, .slice A8 x.f5.length c8] 27 (0, 0))))) ∧ (b_ 17 = true → w' = (Y.alloc (.cells #[.int .i64 x.f0, .int .u64 x.f1.f0, .int .u64 x.f1.f1, .int .u64 x.f1.f2, .int .u64 x.f1.f3, .int .i64 x.f2, .int .i64 x.f3, .int .i64 x.f4, .slice A8 x.f5.length c8] 27 (0, 0))).setCells K (n * 9) (newL lo hi Y.heap.size))) HT_.out HW_.out (by kernel_rfl) (by kernel_rfl) ?_ ?_ ?_
   ·exact ⟨0, 0, (fun h => by cases h), by simp only [qb0, Bool.false_eq_true, if_false], (fun _ => ⟨rfl, rfl⟩), (fun h => by cases h), (fun h => by cases h)⟩
   ·skip
    refine qab ?_ ?_
    ·rintro b_ a w' ⟨gz, gy, h15, ha, h14f, h14, h17⟩ hb_ hon hoff
     refine ⟨_, rfl, fun Kc hKc => ?_⟩
     have e7 : a.tmps[7]? = some (.pointer (some ⟨F, m, none⟩)) := by rw [ha]; exact (qb4 rfl).trans rfl
     replace ha := qa0.mk ha
     replace h14f := qa0.mk h14f
     replace h14 := qa0.mk h14
     replace h17 := qa0.mk h17
     refine qar (w1 := w') (v := .pointer (some ⟨F, m, none⟩)) (by rfl) rfl (by go_simp; try rfl) ?_
     exact hKc.out _ _ ⟨gz, gy, h15, by rw [ha.out]; exact qac 0 hb_ rfl rfl rfl, h14f.out, h14.out, h17.out⟩
    refine qab ?_ ?_
    ·rintro b_ a w' ⟨gz, gy, h15, ha, h14f, h14, h17⟩ hb_ hon hoff
     refine ⟨_, rfl, fun Kc hKc => ?_⟩
     have e31 : a.tmps[31]? = some (.pointer (some ⟨F, m, none⟩)) := by rw [ha]; exact qaf (e := (0, 31, .pointer (some ⟨F, m, none⟩))) 0 rfl rfl (hon 0 (by kernel_rfl)) rfl
     replace ha := qa0.mk ha
     replace h14f := qa0.mk h14f
     replace h14 := qa0.mk h14
     replace h17 := qa0.mk h17
     refine qar (w1 := w') (v := .pointer (some ⟨F, m, none⟩)) (by rfl) rfl (by go_simp; try rfl) ?_
     exact hKc.out _ _ ⟨gz, gy, h15, by rw [ha.out]; exact qac 1 hb_ rfl rfl rfl, h14f.out, h14.out, h17.out⟩
    refine qab ?_ ?_
    ·rintro b_ a w' ⟨gz, gy, h15, ha, h14f, h14, h17⟩ hb_ hon hoff
     refine ⟨_, rfl, fun Kc hKc => ?_⟩
     have e32 : a.tmps[32]? = some (.pointer (some ⟨F, m, none⟩)) := by rw [ha]; exact qaf (e := (1, 32, .pointer (some ⟨F, m, none⟩))) 1 rfl rfl (hon 1 (by kernel_rfl)) rfl
     replace ha := qa0.mk ha
     replace h14f := qa0.mk h14f
     replace h14 := qa0.mk h14
     replace h17 := qa0.mk h17
     refine qar (w1 := w') (v := .pointer (some ⟨F, m, none⟩)) (by rfl) rfl (by go_simp; try rfl) ?_
     exact hKc.out _ _ ⟨gz, gy, h15, by rw [ha.out]; exact qac 2 hb_ rfl rfl rfl, h14f.out, h14.out, h17.out⟩
    refine qab ?_ ?_
    ·rintro b_ a w' ⟨gz, gy, h15, ha, h14f, h14, h17⟩ hb_ hon hoff
     refine ⟨_, rfl, fun Kc hKc => ?_⟩
     have e33 : a.tmps[33]? = some (.pointer (some ⟨F, m, none⟩)) := by rw [ha]; exact qaf (e := (2, 33, .pointer (some ⟨F, m, none⟩))) 2 rfl rfl (hon 2 (by kernel_rfl)) rfl
     have hb17 := hoff 17 (by kernel_rfl)
     have hBw : Below Y.heap.size Y w' := by
      cases h14b : b_ 14 with
      | false => rw [(h14f h14b).2]; exact Below.refl _ _
      | true => rw [(h14 h14b).2 hb17]; exact qa6 (Below.refl _ _) _
     have hcF : w'.cell? ⟨F, m, none⟩ = some (.slice (some ⟨K, 0, none⟩) n1 c0) := by rw [← HM.out.2.2.2.2]; exact (qa2 (qae HF2.out hBw) m).trans HCS.out.1
     clear hBw
     replace ha := qa0.mk ha
     replace h14f := qa0.mk h14f
     replace h14 := qa0.mk h14
     replace h17 := qa0.mk h17
     refine qar (w1 := w') (v := .slice (some ⟨K, 0, none⟩) n1 c0) (by rfl) rfl (by go_simp; try rfl) ?_
     exact hKc.out _ _ ⟨gz, gy, h15, by rw [ha.out]; exact qac 3 hb_ rfl rfl rfl, h14f.out, h14.out, h17.out⟩
    refine qab ?_ ?_
    ·rintro b_ a w' ⟨gz, gy, h15, ha, h14f, h14, h17⟩ hb_ hon hoff
     refine ⟨_, rfl, fun Kc hKc => ?_⟩
     have e8 : a.tmps[8]? = some (.int .i64 (n : Int)) := by rw [ha]; exact (qb4 rfl).trans rfl
     replace ha := qa0.mk ha
     replace h14f := qa0.mk h14f
     replace h14 := qa0.mk h14
     replace h17 := qa0.mk h17
     refine qar (w1 := w') (v := .int .i64 (n : Int)) (by rfl) rfl (by go_simp; try rfl) ?_
     exact hKc.out _ _ ⟨gz, gy, h15, by rw [ha.out]; exact qac 4 hb_ rfl rfl rfl, h14f.out, h14.out, h17.out⟩
    refine qab ?_ ?_
    ·rintro b_ a w' ⟨gz, gy, h15, ha, h14f, h14, h17⟩ hb_ hon hoff
     refine ⟨_, rfl, fun Kc hKc => ?_⟩
     have e1 : a.tmps[1]? = some (.int .i64 lo) := by rw [ha]; exact (qb4 rfl).trans rfl
     replace ha := qa0.mk ha
     replace h14f := qa0.mk h14f
     replace h14 := qa0.mk h14
     replace h17 := qa0.mk h17
     refine qar (w1 := w') (v := .int .i64 lo) (by rfl) rfl (by go_simp; try rfl) ?_
     exact hKc.out _ _ ⟨gz, gy, h15, by rw [ha.out]; exact qac 5 hb_ rfl rfl rfl, h14f.out, h14.out, h17.out⟩
    refine qab ?_ ?_
    ·rintro b_ a w' ⟨gz, gy, h15, ha, h14f, h14, h17⟩ hb_ hon hoff
     refine ⟨_, rfl, fun Kc hKc => ?_⟩
     have e2 : a.tmps[2]? = some (.int .i64 hi) := by rw [ha]; exact (qb4 rfl).trans rfl
     replace ha := qa0.mk ha
     replace h14f := qa0.mk h14f
     replace h14 := qa0.mk h14
     replace h17 := qa0.mk h17
     refine qar (w1 := w') (v := .int .i64 hi) (by rfl) rfl (by go_simp; try rfl) ?_
     exact hKc.out _ _ ⟨gz, gy, h15, by rw [ha.out]; exact qac 6 hb_ rfl rfl rfl, h14f.out, h14.out, h17.out⟩
    refine qab ?_ ?_
    ·rintro b_ a w' ⟨gz, gy, h15, ha, h14f, h14, h17⟩ hb_ hon hoff
     refine ⟨_, rfl, fun Kc hKc => ?_⟩
     have e7 : a.tmps[7]? = some (.pointer (some ⟨F, m, none⟩)) := by rw [ha]; exact (qb4 rfl).trans rfl
     replace ha := qa0.mk ha
     replace h14f := qa0.mk h14f
     replace h14 := qa0.mk h14
     replace h17 := qa0.mk h17
     refine qar (w1 := w') (v := .pointer (some ⟨F, m, none⟩)) (by rfl) rfl (by go_simp; try rfl) ?_
     exact hKc.out _ _ ⟨gz, gy, h15, by rw [ha.out]; exact qac 7 hb_ rfl rfl rfl, h14f.out, h14.out, h17.out⟩
    refine qab ?_ ?_
    ·rintro b_ a w' ⟨gz, gy, h15, ha, h14f, h14, h17⟩ hb_ hon hoff
     refine ⟨_, rfl, fun Kc hKc => ?_⟩
     have e38 : a.tmps[38]? = some (.pointer (some ⟨F, m, none⟩)) := by rw [ha]; exact qaf (e := (7, 38, .pointer (some ⟨F, m, none⟩))) 7 rfl rfl (hon 7 (by kernel_rfl)) rfl
     replace ha := qa0.mk ha
     replace h14f := qa0.mk h14f
     replace h14 := qa0.mk h14
     replace h17 := qa0.mk h17
     refine qar (w1 := w') (v := .pointer (some ⟨F, m, none⟩)) (by rfl) rfl (by go_simp; try rfl) ?_
     exact hKc.out _ _ ⟨gz, gy, h15, by rw [ha.out]; exact qac 8 hb_ rfl rfl rfl, h14f.out, h14.out, h17.out⟩
    refine qab ?_ ?_
    ·rintro b_ a w' ⟨gz, gy, h15, ha, h14f, h14, h17⟩ hb_ hon hoff
     refine ⟨_, rfl, fun Kc hKc => ?_⟩
     have e39 : a.tmps[39]? = some (.pointer (some ⟨F, m, none⟩)) := by rw [ha]; exact qaf (e := (8, 39, .pointer (some ⟨F, m, none⟩))) 8 rfl rfl (hon 8 (by kernel_rfl)) rfl
     replace ha := qa0.mk ha
     replace h14f := qa0.mk h14f
     replace h14 := qa0.mk h14
     replace h17 := qa0.mk h17
     refine qar (w1 := w') (v := .pointer (some ⟨F, m, none⟩)) (by rfl) rfl (by go_simp; try rfl) ?_
     exact hKc.out _ _ ⟨gz, gy, h15, by rw [ha.out]; exact qac 9 hb_ rfl rfl rfl, h14f.out, h14.out, h17.out⟩
    refine qab ?_ ?_
    ·rintro b_ a w' ⟨gz, gy, h15, ha, h14f, h14, h17⟩ hb_ hon hoff
     refine ⟨_, rfl, fun Kc hKc => ?_⟩
     have e40 : a.tmps[40]? = some (.pointer (some ⟨F, m, none⟩)) := by rw [ha]; exact qaf (e := (9, 40, .pointer (some ⟨F, m, none⟩))) 9 rfl rfl (hon 9 (by kernel_rfl)) rfl
     have hb17 : b_ 17 = false := hoff 17 (by kernel_rfl)
     have hBw : Below Y.heap.size Y w' := by
      cases h14b : b_ 14 with
      | false => rw [(h14f h14b).2]; exact Below.refl _ _
      | true => rw [(h14 h14b).2 hb17]; exact qa6 (Below.refl _ _) _
     have hcF : w'.cell? ⟨F, m, none⟩ = some (.slice (some ⟨K, 0, none⟩) n1 c0) := by rw [← HM.out.2.2.2.2]; exact (qa2 (qae HF2.out hBw) m).trans HCS.out.1
     clear hBw
     replace ha := qa0.mk ha
     replace h14f := qa0.mk h14f
     replace h14 := qa0.mk h14
     replace h17 := qa0.mk h17
     refine qar (w1 := w') (v := .slice (some ⟨K, 0, none⟩) n1 c0) (by rfl) rfl (by go_simp; try rfl) ?_
     exact hKc.out _ _ ⟨gz, gy, h15, by rw [ha.out]; exact qac 10 hb_ rfl rfl rfl, h14f.out, h14.out, h17.out⟩
    refine qab ?_ ?_
    ·rintro b_ a w' ⟨gz, gy, h15, ha, h14f, h14, h17⟩ hb_ hon hoff
     refine ⟨_, rfl, fun Kc hKc => ?_⟩
     have e8 : a.tmps[8]? = some (.int .i64 (n : Int)) := by rw [ha]; exact (qb4 rfl).trans rfl
     replace ha := qa0.mk ha
     replace h14f := qa0.mk h14f
     replace h14 := qa0.mk h14
     replace h17 := qa0.mk h17
     refine qar (w1 := w') (v := .int .i64 (n : Int)) (by rfl) rfl (by go_simp; try rfl) ?_
     exact hKc.out _ _ ⟨gz, gy, h15, by rw [ha.out]; exact qac 11 hb_ rfl rfl rfl, h14f.out, h14.out, h17.out⟩
    refine qab ?_ ?_
    ·rintro b_ a w' ⟨gz, gy, h15, ha, h14f, h14, h17⟩ hb_ hon hoff
     refine ⟨_, rfl, fun Kc hKc => ?_⟩
     have e41 : a.tmps[41]? = some (.slice (some ⟨K, 0, none⟩) n1 c0) := by rw [ha]; exact qaf (e := (10, 41, .slice (some ⟨K, 0, none⟩) n1 c0)) 10 rfl rfl (hon 10 (by kernel_rfl)) rfl
     have e42 : a.tmps[42]? = some (.int .i64 (n : Int)) := by rw [ha]; exact qaf (e := (11, 42, .int .i64 (n : Int))) 11 rfl rfl (hon 11 (by kernel_rfl)) rfl
     replace ha := qa0.mk ha
     replace h14f := qa0.mk h14f
     replace h14 := qa0.mk h14
     replace h17 := qa0.mk h17
     refine qar (w1 := w') (v := .pointer (some ⟨K, n * 9, none⟩)) (by rfl) rfl (by go_simp; try rfl) ?_
     exact hKc.out _ _ ⟨gz, gy, h15, by rw [ha.out]; exact qac 12 hb_ rfl rfl rfl, h14f.out, h14.out, h17.out⟩
    refine qab ?_ ?_
    ·rintro b_ a w' ⟨gz, gy, h15, ha, h14f, h14, h17⟩ hb_ hon hoff
     refine ⟨_, rfl, fun Kc hKc => ?_⟩
     have e43 : a.tmps[43]? = some (.pointer (some ⟨K, n * 9, none⟩)) := by rw [ha]; exact qaf (e := (12, 43, .pointer (some ⟨K, n * 9, none⟩))) 12 rfl rfl (hon 12 (by kernel_rfl)) rfl
     have hb17 : b_ 17 = false := hoff 17 (by kernel_rfl)
     have hBw : Below Y.heap.size Y w' := by
      cases h14b : b_ 14 with
      | false => rw [(h14f h14b).2]; exact Below.refl _ _
      | true => rw [(h14 h14b).2 hb17]; exact qa6 (Below.refl _ _) _
     replace ha := qa0.mk ha
     replace h14f := qa0.mk h14f
     replace h14 := qa0.mk h14
     replace h17 := qa0.mk h17
     have hld : ∀ (j : Nat) (u : Value), ([.int .i64 x.f0, .int .u64 x.f1.f0, .int .u64 x.f1.f1, .int .u64 x.f1.f2, .int .u64 x.f1.f3, .int .i64 x.f2, .int .i64 x.f3, .int .i64 x.f4, .slice A8 x.f5.length c8] : List Value)[j]? = some u → w'.cell? ((⟨K, n * 9, none⟩ : Addr).add j) = some u := fun j u hu => by
      rw [Addr.add_mid]
      exact (hBw.cell (p := ⟨K, n * 9 + j, none⟩) (qam (qae HH.out.1 HBY.out))).trans (HXC.out j u hu)
     refine qar (w1 := w') (v := .agg #[.int .i64 x.f0, .int .u64 x.f1.f0, .int .u64 x.f1.f1, .int .u64 x.f1.f2, .int .u64 x.f1.f3, .int .i64 x.f2, .int .i64 x.f3, .int .i64 x.f4, .slice A8 x.f5.length c8]) (by rfl) rfl (qez 27 (.tmp 43) rfl ⟨K, n * 9, none⟩ (by simp only [Act.eval, Array.getD_eq_getD_getElem?, e43, Option.getD_some]) [.int .i64 x.f0, .int .u64 x.f1.f0, .int .u64 x.f1.f1, .int .u64 x.f1.f2, .int .u64 x.f1.f3, .int .i64 x.f2, .int .i64 x.f3, .int .i64 x.f4, .slice A8 x.f5.length c8] _ hld Try.underlying27 rfl (by kernel_rfl)) ?_
     exact hKc.out _ _ ⟨gz, gy, h15, by rw [ha.out]; exact qac 13 hb_ rfl rfl rfl, h14f.out, h14.out, h17.out⟩
    refine qab ?_ ?_
    ·rintro b_ a w' ⟨gz, gy, h15, ha, h14f, h14, h17⟩ hb_ hon hoff
     refine ⟨_, rfl, fun Kc hKc => ?_⟩
     have e44 : a.tmps[44]? = some (.agg #[.int .i64 x.f0, .int .u64 x.f1.f0, .int .u64 x.f1.f1, .int .u64 x.f1.f2, .int .u64 x.f1.f3, .int .i64 x.f2, .int .i64 x.f3, .int .i64 x.f4, .slice A8 x.f5.length c8]) := by rw [ha]; exact qaf (e := (13, 44, .agg #[.int .i64 x.f0, .int .u64 x.f1.f0, .int .u64 x.f1.f1, .int .u64 x.f1.f2, .int .u64 x.f1.f3, .int .i64 x.f2, .int .i64 x.f3, .int .i64 x.f4, .slice A8 x.f5.length c8])) 13 rfl rfl (hon 13 (by kernel_rfl)) rfl
     have hw := (h14f hb_).2
     have hb17 := (h14f hb_).1
     subst hw
     replace ha := qa0.mk ha
     replace h17 := qa0.mk h17
     refine qeq (w1 := w'.alloc (.cells #[.int .i64 x.f0, .int .u64 x.f1.f0, .int .u64 x.f1.f1, .int .u64 x.f1.f2, .int .u64 x.f1.f3, .int .i64 x.f2, .int .i64 x.f3, .int .i64 x.f4, .slice A8 x.f5.length c8] 27 (0, 0))) (v := .slice (some ⟨w'.heap.size, 0, none⟩) 1 1) (by rfl) (by go_simp; try rfl) ?_
     exact hKc.out _ _ ⟨w'.heap.size, gy, h15, by rw [ha.out]; exact qac 14 hb_ rfl rfl rfl, (fun h => by cases h), (fun _ => ⟨rfl, fun _ => rfl⟩), fun h => by rw [show up b_ 14 17 = b_ 17 from rfl, hb17] at h; cases h⟩
    refine qab ?_ ?_
    ·rintro b_ a w' ⟨gz, gy, h15, ha, h14f, h14, h17⟩ hb_ hon hoff
     refine ⟨_, rfl, fun Kc hKc => ?_⟩
     have e36 : a.tmps[36]? = some (.int .i64 lo) := by rw [ha]; exact qaf (e := (5, 36, .int .i64 lo)) 5 rfl rfl (hon 5 (by kernel_rfl)) rfl
     have e37 : a.tmps[37]? = some (.int .i64 hi) := by rw [ha]; exact qaf (e := (6, 37, .int .i64 hi)) 6 rfl rfl (hon 6 (by kernel_rfl)) rfl
     have e45 : a.tmps[45]? = some (.slice (some ⟨gz, 0, none⟩) 1 1) := by rw [ha]; exact qaf (e := (14, 45, .slice (some ⟨gz, 0, none⟩) 1 1)) 14 rfl rfl (hon 14 (by kernel_rfl)) rfl
     replace ha := qa0.mk ha
     replace h14f := qa0.mk h14f
     replace h14 := qa0.mk h14
     replace h17 := qa0.mk h17
     have hgz := (h14.out (hon 14 (by kernel_rfl))).1
     subst hgz
     refine qar (w1 := w') (v := .agg #[.int .i64 5, .int .u64 0, .int .u64 0, .int .u64 0, .int .u64 0, .int .i64 lo, .int .i64 hi, .int .i64 0, .slice (some ⟨Y.heap.size, 0, none⟩) 1 1]) (by rfl) rfl (by go_simp; try rfl) ?_
     exact hKc.out _ _ ⟨Y.heap.size, Y.heap.size, (fun _ => rfl), by rw [ha.out]; exact qac 15 hb_ rfl rfl rfl, h14f.out, h14.out, h17.out⟩
    refine qab ?_ ?_
    ·rintro b_ a w' ⟨gz, gy, h15, ha, h14f, h14, h17⟩ hb_ hon hoff
     refine ⟨_, rfl, fun Kc hKc => ?_⟩
     have e34 : a.tmps[34]? = some (.slice (some ⟨K, 0, none⟩) n1 c0) := by rw [ha]; exact qaf (e := (3, 34, .slice (some ⟨K, 0, none⟩) n1 c0)) 3 rfl rfl (hon 3 (by kernel_rfl)) rfl
     have e35 : a.tmps[35]? = some (.int .i64 (n : Int)) := by rw [ha]; exact qaf (e := (4, 35, .int .i64 (n : Int))) 4 rfl rfl (hon 4 (by kernel_rfl)) rfl
     replace ha := qa0.mk ha
     replace h14f := qa0.mk h14f
     replace h14 := qa0.mk h14
     replace h17 := qa0.mk h17
     refine qar (w1 := w') (v := .pointer (some ⟨K, n * 9, none⟩)) (by rfl) rfl (by go_simp; try rfl) ?_
     exact hKc.out _ _ ⟨gz, gy, h15, by rw [ha.out]; exact qac 16 hb_ rfl rfl rfl, h14f.out, h14.out, h17.out⟩
    refine qab ?_ ?_
    ·rintro b_ a w' ⟨gz, gy, h15, ha, h14f, h14, h17⟩ hb_ hon hoff
     refine ⟨_, rfl, fun Kc hKc => ?_⟩
     have e47 : a.tmps[47]? = some (.pointer (some ⟨K, n * 9, none⟩)) := by rw [ha]; exact qaf (e := (16, 47, .pointer (some ⟨K, n * 9, none⟩))) 16 rfl rfl (hon 16 (by kernel_rfl)) rfl
     have e46 : a.tmps[46]? = some (.agg #[.int .i64 5, .int .u64 0, .int .u64 0, .int .u64 0, .int .u64 0, .int .i64 lo, .int .i64 hi, .int .i64 0, .slice (some ⟨gy, 0, none⟩) 1 1]) := by rw [ha]; exact qaf (e := (15, 46, .agg #[.int .i64 5, .int .u64 0, .int .u64 0, .int .u64 0, .int .u64 0, .int .i64 lo, .int .i64 hi, .int .i64 0, .slice (some ⟨gy, 0, none⟩) 1 1])) 15 rfl rfl (hon 15 (by kernel_rfl)) rfl
     have hgy := h15 (hon 15 (by kernel_rfl))
     subst hgy
     have hw := (h14 (hon 14 (by kernel_rfl))).2 hb_
     subst hw
     have ev47 : a.eval (.tmp 47) = .pointer (some ⟨K, n * 9, none⟩) := by simp only [Act.eval, Array.getD_eq_getD_getElem?, e47, Option.getD_some]
     have ev46 : a.eval (.tmp 46) = .agg #[.int .i64 5, .int .u64 0, .int .u64 0, .int .u64 0, .int .u64 0, .int .i64 lo, .int .i64 hi, .int .i64 0, .slice (some ⟨Y.heap.size, 0, none⟩) 1 1] := by simp only [Act.eval, Array.getD_eq_getD_getElem?, e46, Option.getD_some]
     rw [if_pos (by rfl)]
     refine wp_store_mid 27 (.tmp 47) (.tmp 46) rfl K (n * 9) #[.int .i64 5, .int .u64 0, .int .u64 0, .int .u64 0, .int .u64 0, .int .i64 lo, .int .i64 hi, .int .i64 0, .slice (some ⟨Y.heap.size, 0, none⟩) 1 1] ev47 ev46 HTH.out (by kernel_rfl) (by simp [Value.oneCell']) ?_
     exact hKc.out _ _ ⟨gz, Y.heap.size, (fun _ => rfl), by rw [ha]; exact qex rfl, (fun h => by rw [show up b_ 17 14 = b_ 14 from rfl, hon 14 (by kernel_rfl)] at h; cases h), (fun _ => ⟨(h14 (hon 14 (by kernel_rfl))).1, fun h => by cases h⟩), fun _ => rfl⟩
    exact qd8
   ·rintro b_ a w' hall ⟨gz, gy, h15, ha, h14f, h14, h17⟩
    have hb0_ := hall 0 (by kernel_rfl)
    have hb1_ := hall 1 (by kernel_rfl)
    have hb2_ := hall 2 (by kernel_rfl)
    have hb3_ := hall 3 (by kernel_rfl)
    have hb4_ := hall 4 (by kernel_rfl)
    have hb5_ := hall 5 (by kernel_rfl)
    have hb6_ := hall 6 (by kernel_rfl)
    have hb7_ := hall 7 (by kernel_rfl)
    have hb8_ := hall 8 (by kernel_rfl)
    have hb9_ := hall 9 (by kernel_rfl)
    have hb10_ := hall 10 (by kernel_rfl)
    have hb11_ := hall 11 (by kernel_rfl)
    have hb12_ := hall 12 (by kernel_rfl)
    have hb13_ := hall 13 (by kernel_rfl)
    have hb14_ := hall 14 (by kernel_rfl)
    have hb15_ := hall 15 (by kernel_rfl)
    have hb16_ := hall 16 (by kernel_rfl)
    have hb17_ := hall 17 (by kernel_rfl)
    have hw := h17 hb17_
    subst ha
    simp only [qb0, hb0_, hb1_, hb2_, hb3_, hb4_, hb5_, hb6_, hb7_, hb8_, hb9_, hb10_, hb11_, hb12_, hb13_, hb14_, hb15_, hb16_, if_true, Act.put, List.setIfInBounds_toArray, List.set_cons_zero, List.set_cons_succ]
    clear hall h15 h14f h14 h17 hHeld HT_ HW_ hb0_ hb1_ hb2_ hb3_ hb4_ hb5_ hb6_ hb7_ hb8_ hb9_ hb10_ hb11_ hb12_ hb13_ hb14_ hb15_ hb16_ hb17_
    have hR1 := HRZ.out
    have hG1 := HGZ.out
    have hZ : ∀ k, k < Y.heap.size → k ≠ K → w'.heap[k]? = Y.heap[k]? := by
     intro k hk hne
     rw [hw]
     exact (hG1.block k (by simpa [World.size_alloc] using Nat.lt_succ_of_lt hk) (fun e => hne (by injection e))).trans (Below.heap_alloc Y _ k hk)
    have hZs : Y.heap.size ≤ w'.heap.size := by
     rw [hw]
     exact Nat.le_trans (by simp [World.size_alloc]) hG1.size
    have hbK : base ≤ K := by
     obtain ⟨K', c', cl', he, -, hb, -, -⟩ := qd5 HK3.out (by simp)
     injection he with e1 _ _; injection e1 with e1; injection e1 with e1 _ _; rw [e1]; exact hb
    have hZB : Below base Y w' := by
     rw [hw]
     exact (qca (Below.refl base Y) HBb.out (qa6 (Below.refl _ _) _)).grown hG1 (Nat.le_trans HBb.out (by simp [World.size_alloc])) (fun j e => by injection e with e; rw [← e]; exact hbK)
    have hRw : k27.R 27 w' base (fun k => oA k ∨ Y.heap.size ≤ k) (.slice (some ⟨K, 0, none⟩) (n + 1) c0) (xs ++ [newR lo hi x]) := by rw [hw]; exact hR1
    obtain ⟨hso, hsf, hIP, hBZ⟩ := qia (o := o) (o' := wrap64 (o)) (n := n) (K := K) (Sb := Sb) (F := F) (c := c) (q := q) (b := 0) (f := f) (fs := fs) (ns := ns) hl10 HB.out.1 HBb.out HG2.out HR2.out hrg hra hv0 hv1 (by rw [hf0]; exact HK2.out) HI2.out (by rw [HLN.out]; exact HM.out.2.2.2.1) HS2.out HO.out.2.2 hZ hZs hZB hRw
    have hFK : F ≠ K := qdz HF2.out (qae HH.out.1 HBY.out) (by decide)
    have hF1 : w'.cell? ⟨F, m + 1, none⟩ = some (.slice (some ⟨Sb, 0, none⟩) n1 c1) := by rw [← HM.out.2.2.2.2]; exact (qa2 ((hZ F (qam HF2.out) hFK).trans HF2.out) (m + 1)).trans HCS.out.2
    have HIP := qa0.mk hIP
    have HBZ := qa0.mk hBZ
    clear hw hR1 hG1 hZ hZs hZB hRw hIP hBZ hFK hbK HXC HTH HRZ HGZ
    go_wp2_with (first | (go_at_call 35; refine (qe2 base g _ _ _ HIP.out rv HRV.out).mono ?_; rintro e' w6 ⟨rfl, hI6, hB6⟩; have HI6 := qa0.mk hI6; have HB6 := qa0.mk hB6; clear hI6 hB6))
    go_ret
    unfold repS
    rw [HTM.out, Int.mul_one]
    exact ⟨rfl, HI6.out, ((Bel.of_below HBY.out HB.out.2.1).trans HBZ.out).trans HB6.out⟩
 ·have cb : decide (hi < 0) = false := decide_eq_false cc
  replace cc := qa0.mk cc
  have htm : qcw lo hi = hi := by unfold qcw; first | rw [if_pos cc.out]; omega | rw [if_neg (Int.not_lt.2 cc.out)] | rw [if_neg cc.out] | (rw [if_pos cc.out]; done)
  obtain ⟨rv, hrv⟩ : ∃ rv : Int, (if 256 < (repS p f fs xs x ns o lo hi).sz then (13 : Int) else 0) = rv := ⟨_, rfl⟩
  rw [hrv]
  unfold repS at hrv
  rw [htm] at hrv
  have HRV := qa0.mk hrv
  have HTM := qa0.mk htm
  clear hrv htm
  go_enter Try.func38, Try.ntmps38
  go_wp2_with (first | (go_at_call 27; refine (qdd g F (q + 1) c _ hg0 (by omega) (by have := HL.out; have := HM.out.2.2.1; omega)).mono ?_; rintro e' w2 ⟨rfl, mm, rfl⟩; rw [show q + 1 - 1 = q from rfl, HM.out.1]))
  refine qe1 (n := 18) (S := fun w' => True) (ds := []) #[false, false, false, false, false, false, false, false, false, false, false, false, false, false, false, false, false, false] (by kernel_rfl) rfl rfl trivial (fun hHeld => ?_)
  refine qd4 qi7 qh0 (fun HT_ HW_ => ?_)
  clear hg0 hF0 hF1 hso
  generalize hY : World.drew _ = Y at hHeld ⊢
  have HBY : qa0 (Below W.heap.size W Y) := by subst hY; exact ⟨by repeat (first | exact Below.refl _ _ | apply qa8 | apply qa7)⟩
  clear hY
  have HF2 := qa0.mk (qae HF.out HBY.out)
  have HG2 := qa0.mk (qae HG.out HBY.out)
  have HK2 := qa0.mk (Kd.qbg HK.out HBY.out)
  have HI2 := qa0.mk (Kd.qbg HI.out HBY.out)
  have HR2 := qa0.mk (Kd.qbg HR.out HBY.out)
  have HS2 := qa0.mk ((HS.out.step (fun k _ hk => HBY.out.block k hk)).bd)
  have HBb := qa0.mk (Nat.le_trans HB.out.2.1 HBY.out.size)
  have HK3 : qa0 (k27.R 27 Y base oA (.slice (some ⟨K, 0, none⟩) (n + 1) c0) (xs ++ [x])) := ⟨by rw [← hv0]; exact HK2.out⟩
  obtain ⟨A8, c8, hxc, hth, hRZ, hgZ⟩ := qi1 lo hi HK3.out HM.out.2.2.2.1 HBb.out
  have HXC := qa0.mk hxc
  have HTH := qa0.mk hth
  have HRZ := qa0.mk hRZ
  have HGZ := qa0.mk hgZ
  clear hxc hth hRZ hgZ HF HG HK HR HS
  refine qe6 [0, 1, 2, 3, 4, 5, 6, 7, 8, 9, 10, 11, 12, 13, 14, 15, 16, 17] (fun a0_ b_ a w' => ∃ (gz gy : Nat), (b_ 15 = true → gy = Y.heap.size) ∧ a = qb0 a0_ b_ [(0, 31, .pointer (some ⟨F, m, none⟩)), (1, 32, .pointer (some ⟨F, m, none⟩)), (2, 33, .pointer (some ⟨F, m, none⟩)), (3, 34, .slice (some ⟨K, 0, none⟩) n1 c0), (4, 35, .int .i64 (n : Int)), (5, 36, .int .i64 lo), (6, 37, .int .i64 hi), (7, 38, .pointer (some ⟨F, m, none⟩)), (8, 39, .pointer (some ⟨F, m, none⟩)), (9, 40, .pointer (some ⟨F, m, none⟩)), (10, 41, .slice (some ⟨K, 0, none⟩) n1 c0), (11, 42, .int .i64 (n : Int)), (12, 43, .pointer (some ⟨K, n * 9, none⟩)), (13, 44, .agg #[.int .i64 x.f0, .int .u64 x.f1.f0, .int .u64 x.f1.f1, .int .u64 x.f1.f2, .int .u64 x.f1.f3, .int .i64 x.f2, .int .i64 x.f3, .int .i64 x.f4, .slice A8 x.f5.length c8]), (14, 45, .slice (some ⟨gz, 0, none⟩) 1 1), (15, 46, .agg #[.int .i64 5, .int .u64 0, .int .u64 0, .int .u64 0, .int .u64 0, .int .i64 lo, .int .i64 hi, .int .i64 0, .slice (some ⟨gy, 0, none⟩) 1 1]), (16, 47, .pointer (some ⟨K, n * 9, none⟩))] ∧ (b_ 14 = false → b_ 17 = false ∧ w' = Y) ∧ (b_ 14 = true → gz = Y.heap.size ∧ (b_ 17 = false → w' = (Y.alloc (.cells #[.int .i64 x.f0, .int .u64 x.f1.f0, .int .u64 x.f1.f1, .int .u64 x.f1.f2, .int .u64 x.f1.f3, .int .i64 x.f2, .int .i64 x.f3, .int .i64 x.f4, .slice A8 x.f5.length c8] 27 (0, 0))))) ∧ (b_ 17 = true → w' = (Y.alloc (.cells #[.int .i64 x.f0, .int .u64 x.f1.f0, .int .u64 x.f1.f1, .int .u64 x.f1.f2, .int .u64 x.f1.f3, .int .i64 x.f2, .int .i64 x.f3, .int .i64 x.f4, .slice A8 x.f5.length c8] 27 (0, 0))).setCells K (n * 9) (newL lo hi Y.heap.size))) HT_.out HW_.out (by kernel_rfl) (by kernel_rfl) ?_ ?_ ?_
  ·exact ⟨0, 0, (fun h => by cases h), by simp only [qb0, Bool.false_eq_true, if_false], (fun _ => ⟨rfl, rfl⟩), (fun h => by cases h), (fun h => by cases h)⟩
  ·skip
   refine qab ?_ ?_
   ·rintro b_ a w' ⟨gz, gy, h15, ha, h14f, h14, h17⟩ hb_ hon hoff
    refine ⟨_, rfl, fun Kc hKc => ?_⟩
    have e7 : a.tmps[7]? = some (.pointer (some ⟨F, m, none⟩)) := by rw [ha]; exact (qb4 rfl).trans rfl
    replace ha := qa0.mk ha
    replace h14f := qa0.mk h14f
    replace h14 := qa0.mk h14
    replace h17 := qa0.mk h17
    refine qar (w1 := w') (v := .pointer (some ⟨F, m, none⟩)) (by rfl) rfl (by go_simp; try rfl) ?_
    exact hKc.out _ _ ⟨gz, gy, h15, by rw [ha.out]; exact qac 0 hb_ rfl rfl rfl, h14f.out, h14.out, h17.out⟩
   refine qab ?_ ?_
   ·rintro b_ a w' ⟨gz, gy, h15, ha, h14f, h14, h17⟩ hb_ hon hoff
    refine ⟨_, rfl, fun Kc hKc => ?_⟩
    have e31 : a.tmps[31]? = some (.pointer (some ⟨F, m, none⟩)) := by rw [ha]; exact qaf (e := (0, 31, .pointer (some ⟨F, m, none⟩))) 0 rfl rfl (hon 0 (by kernel_rfl)) rfl
    replace ha := qa0.mk ha
    replace h14f := qa0.mk h14f
    replace h14 := qa0.mk h14
    replace h17 := qa0.mk h17
    refine qar (w1 := w') (v := .pointer (some ⟨F, m, none⟩)) (by rfl) rfl (by go_simp; try rfl) ?_
    exact hKc.out _ _ ⟨gz, gy, h15, by rw [ha.out]; exact qac 1 hb_ rfl rfl rfl, h14f.out, h14.out, h17.out⟩
   refine qab ?_ ?_
   ·rintro b_ a w' ⟨gz, gy, h15, ha, h14f, h14, h17⟩ hb_ hon hoff
    refine ⟨_, rfl, fun Kc hKc => ?_⟩
    have e32 : a.tmps[32]? = some (.pointer (some ⟨F, m, none⟩)) := by rw [ha]; exact qaf (e := (1, 32, .pointer (some ⟨F, m, none⟩))) 1 rfl rfl (hon 1 (by kernel_rfl)) rfl
    replace ha := qa0.mk ha
    replace h14f := qa0.mk h14f
    replace h14 := qa0.mk h14
    replace h17 := qa0.mk h17
    refine qar (w1 := w') (v := .pointer (some ⟨F, m, none⟩)) (by rfl) rfl (by go_simp; try rfl) ?_
    exact hKc.out _ _ ⟨gz, gy, h15, by rw [ha.out]; exact qac 2 hb_ rfl rfl rfl, h14f.out, h14.out, h17.out⟩
   refine qab ?_ ?_
   ·rintro b_ a w' ⟨gz, gy, h15, ha, h14f, h14, h17⟩ hb_ hon hoff
    refine ⟨_, rfl, fun Kc hKc => ?_⟩
    have e33 : a.tmps[33]? = some (.pointer (some ⟨F, m, none⟩)) := by rw [ha]; exact qaf (e := (2, 33, .pointer (some ⟨F, m, none⟩))) 2 rfl rfl (hon 2 (by kernel_rfl)) rfl
    have hb17 := hoff 17 (by kernel_rfl)
    have hBw : Below Y.heap.size Y w' := by
     cases h14b : b_ 14 with
     | false => rw [(h14f h14b).2]; exact Below.refl _ _
     | true => rw [(h14 h14b).2 hb17]; exact qa6 (Below.refl _ _) _
    have hcF : w'.cell? ⟨F, m, none⟩ = some (.slice (some ⟨K, 0, none⟩) n1 c0) := by rw [← HM.out.2.2.2.2]; exact (qa2 (qae HF2.out hBw) m).trans HCS.out.1
    clear hBw
    replace ha := qa0.mk ha
    replace h14f := qa0.mk h14f
    replace h14 := qa0.mk h14
    replace h17 := qa0.mk h17
    refine qar (w1 := w') (v := .slice (some ⟨K, 0, none⟩) n1 c0) (by rfl) rfl (by go_simp; try rfl) ?_
    exact hKc.out _ _ ⟨gz, gy, h15, by rw [ha.out]; exact qac 3 hb_ rfl rfl rfl, h14f.out, h14.out, h17.out⟩
   refine qab ?_ ?_
   ·rintro b_ a w' ⟨gz, gy, h15, ha, h14f, h14, h17⟩ hb_ hon hoff
    refine ⟨_, rfl, fun Kc hKc => ?_⟩
    have e8 : a.tmps[8]? = some (.int .i64 (n : Int)) := by rw [ha]; exact (qb4 rfl).trans rfl
    replace ha := qa0.mk ha
    replace h14f := qa0.mk h14f
    replace h14 := qa0.mk h14
    replace h17 := qa0.mk h17
    refine qar (w1 := w') (v := .int .i64 (n : Int)) (by rfl) rfl (by go_simp; try rfl) ?_
    exact hKc.out _ _ ⟨gz, gy, h15, by rw [ha.out]; exact qac 4 hb_ rfl rfl rfl, h14f.out, h14.out, h17.out⟩
   refine qab ?_ ?_
   ·rintro b_ a w' ⟨gz, gy, h15, ha, h14f, h14, h17⟩ hb_ hon hoff
    refine ⟨_, rfl, fun Kc hKc => ?_⟩
    have e1 : a.tmps[1]? = some (.int .i64 lo) := by rw [ha]; exact (qb4 rfl).trans rfl
    replace ha := qa0.mk ha
    replace h14f := qa0.mk h14f
    replace h14 := qa0.mk h14
    replace h17 := qa0.mk h17
    refine qar (w1 := w') (v := .int .i64 lo) (by rfl) rfl (by go_simp; try rfl) ?_
    exact hKc.out _ _ ⟨gz, gy, h15, by rw [ha.out]; exact qac 5 hb_ rfl rfl rfl, h14f.out, h14.out, h17.out⟩
   refine qab ?_ ?_
   ·rintro b_ a w' ⟨gz, gy, h15, ha, h14f, h14, h17⟩ hb_ hon hoff
    refine ⟨_, rfl, fun Kc hKc => ?_⟩
    have e2 : a.tmps[2]? = some (.int .i64 hi) := by rw [ha]; exact (qb4 rfl).trans rfl
    replace ha := qa0.mk ha
    replace h14f := qa0.mk h14f
    replace h14 := qa0.mk h14
    replace h17 := qa0.mk h17
    refine qar (w1 := w') (v := .int .i64 hi) (by rfl) rfl (by go_simp; try rfl) ?_
    exact hKc.out _ _ ⟨gz, gy, h15, by rw [ha.out]; exact qac 6 hb_ rfl rfl rfl, h14f.out, h14.out, h17.out⟩
   refine qab ?_ ?_
   ·rintro b_ a w' ⟨gz, gy, h15, ha, h14f, h14, h17⟩ hb_ hon hoff
    refine ⟨_, rfl, fun Kc hKc => ?_⟩
    have e7 : a.tmps[7]? = some (.pointer (some ⟨F, m, none⟩)) := by rw [ha]; exact (qb4 rfl).trans rfl
    replace ha := qa0.mk ha
    replace h14f := qa0.mk h14f
    replace h14 := qa0.mk h14
    replace h17 := qa0.mk h17
    refine qar (w1 := w') (v := .pointer (some ⟨F, m, none⟩)) (by rfl) rfl (by go_simp; try rfl) ?_
    exact hKc.out _ _ ⟨gz, gy, h15, by rw [ha.out]; exact qac 7 hb_ rfl rfl rfl, h14f.out, h14.out, h17.out⟩
   refine qab ?_ ?_
   ·rintro b_ a w' ⟨gz, gy, h15, ha, h14f, h14, h17⟩ hb_ hon hoff
    refine ⟨_, rfl, fun Kc hKc => ?_⟩
    have e38 : a.tmps[38]? = some (.pointer (some ⟨F, m, none⟩)) := by rw [ha]; exact qaf (e := (7, 38, .pointer (some ⟨F, m, none⟩))) 7 rfl rfl (hon 7 (by kernel_rfl)) rfl
    replace ha := qa0.mk ha
    replace h14f := qa0.mk h14f
    replace h14 := qa0.mk h14
    replace h17 := qa0.mk h17
    refine qar (w1 := w') (v := .pointer (some ⟨F, m, none⟩)) (by rfl) rfl (by go_simp; try rfl) ?_
    exact hKc.out _ _ ⟨gz, gy, h15, by rw [ha.out]; exact qac 8 hb_ rfl rfl rfl, h14f.out, h14.out, h17.out⟩
   refine qab ?_ ?_
   ·rintro b_ a w' ⟨gz, gy, h15, ha, h14f, h14, h17⟩ hb_ hon hoff
    refine ⟨_, rfl, fun Kc hKc => ?_⟩
    have e39 : a.tmps[39]? = some (.pointer (some ⟨F, m, none⟩)) := by rw [ha]; exact qaf (e := (8, 39, .pointer (some ⟨F, m, none⟩))) 8 rfl rfl (hon 8 (by kernel_rfl)) rfl
    replace ha := qa0.mk ha
    replace h14f := qa0.mk h14f
    replace h14 := qa0.mk h14
    replace h17 := qa0.mk h17
    refine qar (w1 := w') (v := .pointer (some ⟨F, m, none⟩)) (by rfl) rfl (by go_simp; try rfl) ?_
    exact hKc.out _ _ ⟨gz, gy, h15, by rw [ha.out]; exact qac 9 hb_ rfl rfl rfl, h14f.out, h14.out, h17.out⟩
   refine qab ?_ ?_
   ·rintro b_ a w' ⟨gz, gy, h15, ha, h14f, h14, h17⟩ hb_ hon hoff
    refine ⟨_, rfl, fun Kc hKc => ?_⟩
    have e40 : a.tmps[40]? = some (.pointer (some ⟨F, m, none⟩)) := by rw [ha]; exact qaf (e := (9, 40, .pointer (some ⟨F, m, none⟩))) 9 rfl rfl (hon 9 (by kernel_rfl)) rfl
    have hb17 : b_ 17 = false := hoff 17 (by kernel_rfl)
    have hBw : Below Y.heap.size Y w' := by
     cases h14b : b_ 14 with
     | false => rw [(h14f h14b).2]; exact Below.refl _ _
     | true => rw [(h14 h14b).2 hb17]; exact qa6 (Below.refl _ _) _
    have hcF : w'.cell? ⟨F, m, none⟩ = some (.slice (some ⟨K, 0, none⟩) n1 c0) := by rw [← HM.out.2.2.2.2]; exact (qa2 (qae HF2.out hBw) m).trans HCS.out.1
    clear hBw
    replace ha := qa0.mk ha
    replace h14f := qa0.mk h14f
    replace h14 := qa0.mk h14
    replace h17 := qa0.mk h17
    refine qar (w1 := w') (v := .slice (some ⟨K, 0, none⟩) n1 c0) (by rfl) rfl (by go_simp; try rfl) ?_
    exact hKc.out _ _ ⟨gz, gy, h15, by rw [ha.out]; exact qac 10 hb_ rfl rfl rfl, h14f.out, h14.out, h17.out⟩
   refine qab ?_ ?_
   ·rintro b_ a w' ⟨gz, gy, h15, ha, h14f, h14, h17⟩ hb_ hon hoff
    refine ⟨_, rfl, fun Kc hKc => ?_⟩
    have e8 : a.tmps[8]? = some (.int .i64 (n : Int)) := by rw [ha]; exact (qb4 rfl).trans rfl
    replace ha := qa0.mk ha
    replace h14f := qa0.mk h14f
    replace h14 := qa0.mk h14
    replace h17 := qa0.mk h17
    refine qar (w1 := w') (v := .int .i64 (n : Int)) (by rfl) rfl (by go_simp; try rfl) ?_
    exact hKc.out _ _ ⟨gz, gy, h15, by rw [ha.out]; exact qac 11 hb_ rfl rfl rfl, h14f.out, h14.out, h17.out⟩
   refine qab ?_ ?_
   ·rintro b_ a w' ⟨gz, gy, h15, ha, h14f, h14, h17⟩ hb_ hon hoff
    refine ⟨_, rfl, fun Kc hKc => ?_⟩
    have e41 : a.tmps[41]? = some (.slice (some ⟨K, 0, none⟩) n1 c0) := by rw [ha]; exact qaf (e := (10, 41, .slice (some ⟨K, 0, none⟩) n1 c0)) 10 rfl rfl (hon 10 (by kernel_rfl)) rfl
    have e42 : a.tmps[42]? = some (.int .i64 (n : Int)) := by rw [ha]; exact qaf (e := (11, 42, .int .i64 (n : Int))) 11 rfl rfl (hon 11 (by kernel_rfl)) rfl
    replace ha := qa0.mk ha
    replace h14f := qa0.mk h14f
    replace h14 := qa0.mk h14
    replace h17 := qa0.mk h17
    refine qar (w1 := w') (v := .pointer (some ⟨K, n * 9, none⟩)) (by rfl) rfl (by go_simp; try rfl) ?_
    exact hKc.out _ _ ⟨gz, gy, h15, by rw [ha.out]; exact qac 12 hb_ rfl rfl rfl, h14f.out, h14.out, h17.out⟩
   refine qab ?_ ?_
   ·rintro b_ a w' ⟨gz, gy, h15, ha, h14f, h14, h17⟩ hb_ hon hoff
    refine ⟨_, rfl, fun Kc hKc => ?_⟩
    have e43 : a.tmps[43]? = some (.pointer (some ⟨K, n * 9, none⟩)) := by rw [ha]; exact qaf (e := (12, 43, .pointer (some ⟨K, n * 9, none⟩))) 12 rfl rfl (hon 12 (by kernel_rfl)) rfl
    have hb17 : b_ 17 = false := hoff 17 (by kernel_rfl)
    have hBw : Below Y.heap.size Y w' := by
     cases h14b : b_ 14 with
     | false => rw [(h14f h14b).2]; exact Below.refl _ _
     | true => rw [(h14 h14b).2 hb17]; exact qa6 (Below.refl _ _) _
    replace ha := qa0.mk ha
    replace h14f := qa0.mk h14f
    replace h14 := qa0.mk h14
    replace h17 := qa0.mk h17
    have hld : ∀ (j : Nat) (u : Value), ([.int .i64 x.f0, .int .u64 x.f1.f0, .int .u64 x.f1.f1, .int .u64 x.f1.f2, .int .u64 x.f1.f3, .int .i64 x.f2, .int .i64 x.f3, .int .i64 x.f4, .slice A8 x.f5.length c8] : List Value)[j]? = some u → w'.cell? ((⟨K, n * 9, none⟩ : Addr).add j) = some u := fun j u hu => by
     rw [Addr.add_mid]
     exact (hBw.cell (p := ⟨K, n * 9 + j, none⟩) (qam (qae HH.out.1 HBY.out))).trans (HXC.out j u hu)
    refine qar (w1 := w') (v := .agg #[.int .i64 x.f0, .int .u64 x.f1.f0, .int .u64 x.f1.f1, .int .u64 x.f1.f2, .int .u64 x.f1.f3, .int .i64 x.f2, .int .i64 x.f3, .int .i64 x.f4, .slice A8 x.f5.length c8]) (by rfl) rfl (qez 27 (.tmp 43) rfl ⟨K, n * 9, none⟩ (by simp only [Act.eval, Array.getD_eq_getD_getElem?, e43, Option.getD_some]) [.int .i64 x.f0, .int .u64 x.f1.f0, .int .u64 x.f1.f1, .int .u64 x.f1.f2, .int .u64 x.f1.f3, .int .i64 x.f2, .int .i64 x.f3, .int .i64 x.f4, .slice A8 x.f5.length c8] _ hld Try.underlying27 rfl (by kernel_rfl)) ?_
    exact hKc.out _ _ ⟨gz, gy, h15, by rw [ha.out]; exact qac 13 hb_ rfl rfl rfl, h14f.out, h14.out, h17.out⟩
   refine qab ?_ ?_
   ·rintro b_ a w' ⟨gz, gy, h15, ha, h14f, h14, h17⟩ hb_ hon hoff
    refine ⟨_, rfl, fun Kc hKc => ?_⟩
    have e44 : a.tmps[44]? = some (.agg #[.int .i64 x.f0, .int .u64 x.f1.f0, .int .u64 x.f1.f1, .int .u64 x.f1.f2, .int .u64 x.f1.f3, .int .i64 x.f2, .int .i64 x.f3, .int .i64 x.f4, .slice A8 x.f5.length c8]) := by rw [ha]; exact qaf (e := (13, 44, .agg #[.int .i64 x.f0, .int .u64 x.f1.f0, .int .u64 x.f1.f1, .int .u64 x.f1.f2, .int .u64 x.f1.f3, .int .i64 x.f2, .int .i64 x.f3, .int .i64 x.f4, .slice A8 x.f5.length c8])) 13 rfl rfl (hon 13 (by kernel_rfl)) rfl
    have hw := (h14f hb_).2
    have hb17 := (h14f hb_).1
    subst hw
    replace ha := qa0.mk ha
    replace h17 := qa0.mk h17
    refine qeq (w1 := w'.alloc (.cells #[.int .i64 x.f0, .int .u64 x.f1.f0, .int .u64 x.f1.f1, .int .u64 x.f1.f2, .int .u64 x.f1.f3, .int .i64 x.f2, .int .i64 x.f3, .int .i64 x.f4, .slice A8 x.f5.length c8] 27 (0, 0))) (v := .slice (some ⟨w'.heap.size, 0, none⟩) 1 1) (by rfl) (by go_simp; try rfl) ?_
    exact hKc.out _ _ ⟨w'.heap.size, gy, h15, by rw [ha.out]; exact qac 14 hb_ rfl rfl rfl, (fun h => by cases h), (fun _ => ⟨rfl, fun _ => rfl⟩), fun h => by rw [show up b_ 14 17 = b_ 17 from rfl, hb17] at h; cases h⟩
   refine qab ?_ ?_
   ·rintro b_ a w' ⟨gz, gy, h15, ha, h14f, h14, h17⟩ hb_ hon hoff
    refine ⟨_, rfl, fun Kc hKc => ?_⟩
    have e36 : a.tmps[36]? = some (.int .i64 lo) := by rw [ha]; exact qaf (e := (5, 36, .int .i64 lo)) 5 rfl rfl (hon 5 (by kernel_rfl)) rfl
    have e37 : a.tmps[37]? = some (.int .i64 hi) := by rw [ha]; exact qaf (e := (6, 37, .int .i64 hi)) 6 rfl rfl (hon 6 (by kernel_rfl)) rfl
    have e45 : a.tmps[45]? = some (.slice (some ⟨gz, 0, none⟩) 1 1) := by rw [ha]; exact qaf (e := (14, 45, .slice (some ⟨gz, 0, none⟩) 1 1)) 14 rfl rfl (hon 14 (by kernel_rfl)) rfl
    replace ha := qa0.mk ha
    replace h14f := qa0.mk h14f
    replace h14 := qa0.mk h14
    replace h17 := qa0.mk h17
    have hgz := (h14.out (hon 14 (by kernel_rfl))).1
    subst hgz
    refine qar (w1 := w') (v := .agg #[.int .i64 5, .int .u64 0, .int .u64 0, .int .u64 0, .int .u64 0, .int .i64 lo, .int .i64 hi, .int .i64 0, .slice (some ⟨Y.heap.size, 0, none⟩) 1 1]) (by rfl) rfl (by go_simp; try rfl) ?_
    exact hKc.out _ _ ⟨Y.heap.size, Y.heap.size, (fun _ => rfl), by rw [ha.out]; exact qac 15 hb_ rfl rfl rfl, h14f.out, h14.out, h17.out⟩
   refine qab ?_ ?_
   ·rintro b_ a w' ⟨gz, gy, h15, ha, h14f, h14, h17⟩ hb_ hon hoff
    refine ⟨_, rfl, fun Kc hKc => ?_⟩
    have e34 : a.tmps[34]? = some (.slice (some ⟨K, 0, none⟩) n1 c0) := by rw [ha]; exact qaf (e := (3, 34, .slice (some ⟨K, 0, none⟩) n1 c0)) 3 rfl rfl (hon 3 (by kernel_rfl)) rfl
    have e35 : a.tmps[35]? = some (.int .i64 (n : Int)) := by rw [ha]; exact qaf (e := (4, 35, .int .i64 (n : Int))) 4 rfl rfl (hon 4 (by kernel_rfl)) rfl
    replace ha := qa0.mk ha
    replace h14f := qa0.mk h14f
    replace h14 := qa0.mk h14
    replace h17 := qa0.mk h17
    refine qar (w1 := w') (v := .pointer (some ⟨K, n * 9, none⟩)) (by rfl) rfl (by go_simp; try rfl) ?_
    exact hKc.out _ _ ⟨gz, gy, h15, by rw [ha.out]; exact qac 16 hb_ rfl rfl rfl, h14f.out, h14.out, h17.out⟩
   refine qab ?_ ?_
   ·rintro b_ a w' ⟨gz, gy, h15, ha, h14f, h14, h17⟩ hb_ hon hoff
    refine ⟨_, rfl, fun Kc hKc => ?_⟩
    have e47 : a.tmps[47]? = some (.pointer (some ⟨K, n * 9, none⟩)) := by rw [ha]; exact qaf (e := (16, 47, .pointer (some ⟨K, n * 9, none⟩))) 16 rfl rfl (hon 16 (by kernel_rfl)) rfl
    have e46 : a.tmps[46]? = some (.agg #[.int .i64 5, .int .u64 0, .int .u64 0, .int .u64 0, .int .u64 0, .int .i64 lo, .int .i64 hi, .int .i64 0, .slice (some ⟨gy, 0, none⟩) 1 1]) := by rw [ha]; exact qaf (e := (15, 46, .agg #[.int .i64 5, .int .u64 0, .int .u64 0, .int .u64 0, .int .u64 0, .int .i64 lo, .int .i64 hi, .int .i64 0, .slice (some ⟨gy, 0, none⟩) 1 1])) 15 rfl rfl (hon 15 (by kernel_rfl)) rfl
    have hgy := h15 (hon 15 (by kernel_rfl))
    subst hgy
    have hw := (h14 (hon 14 (by kernel_rfl))).2 hb_
    subst hw
    have ev47 : a.eval (.tmp 47) = .pointer (some ⟨K, n * 9, none⟩) := by simp only [Act.eval, Array.getD_eq_getD_getElem?, e47, Option.getD_some]
    have ev46 : a.eval (.tmp 46) = .agg #[.int .i64 5, .int .u64 0, .int .u64 0, .int .u64 0, .int .u64 0, .int .i64 lo, .int .i64 hi, .int .i64 0, .slice (some ⟨Y.heap.size, 0, none⟩) 1 1] := by simp only [Act.eval, Array.getD_eq_getD_getElem?, e46, Option.getD_some]
    rw [if_pos (by rfl)]
    refine wp_store_mid 27 (.tmp 47) (.tmp 46) rfl K (n * 9) #[.int .i64 5, .int .u64 0, .int .u64 0, .int .u64 0, .int .u64 0, .int .i64 lo, .int .i64 hi, .int .i64 0, .slice (some ⟨Y.heap.size, 0, none⟩) 1 1] ev47 ev46 HTH.out (by kernel_rfl) (by simp [Value.oneCell']) ?_
    exact hKc.out _ _ ⟨gz, Y.heap.size, (fun _ => rfl), by rw [ha]; exact qex rfl, (fun h => by rw [show up b_ 17 14 = b_ 14 from rfl, hon 14 (by kernel_rfl)] at h; cases h), (fun _ => ⟨(h14 (hon 14 (by kernel_rfl))).1, fun h => by cases h⟩), fun _ => rfl⟩
   exact qd8
  ·rintro b_ a w' hall ⟨gz, gy, h15, ha, h14f, h14, h17⟩
   have hb0_ := hall 0 (by kernel_rfl)
   have hb1_ := hall 1 (by kernel_rfl)
   have hb2_ := hall 2 (by kernel_rfl)
   have hb3_ := hall 3 (by kernel_rfl)
   have hb4_ := hall 4 (by kernel_rfl)
   have hb5_ := hall 5 (by kernel_rfl)
   have hb6_ := hall 6 (by kernel_rfl)
   have hb7_ := hall 7 (by kernel_rfl)
   have hb8_ := hall 8 (by kernel_rfl)
   have hb9_ := hall 9 (by kernel_rfl)
   have hb10_ := hall 10 (by kernel_rfl)
   have hb11_ := hall 11 (by kernel_rfl)
   have hb12_ := hall 12 (by kernel_rfl)
   have hb13_ := hall 13 (by kernel_rfl)
   have hb14_ := hall 14 (by kernel_rfl)
   have hb15_ := hall 15 (by kernel_rfl)
   have hb16_ := hall 16 (by kernel_rfl)
   have hb17_ := hall 17 (by kernel_rfl)
   have hw := h17 hb17_
   subst ha
   simp only [qb0, hb0_, hb1_, hb2_, hb3_, hb4_, hb5_, hb6_, hb7_, hb8_, hb9_, hb10_, hb11_, hb12_, hb13_, hb14_, hb15_, hb16_, if_true, Act.put, List.setIfInBounds_toArray, List.set_cons_zero, List.set_cons_succ]
   clear hall h15 h14f h14 h17 hHeld HT_ HW_ hb0_ hb1_ hb2_ hb3_ hb4_ hb5_ hb6_ hb7_ hb8_ hb9_ hb10_ hb11_ hb12_ hb13_ hb14_ hb15_ hb16_ hb17_
   have hR1 := HRZ.out
   have hG1 := HGZ.out
   have hZ : ∀ k, k < Y.heap.size → k ≠ K → w'.heap[k]? = Y.heap[k]? := by
    intro k hk hne
    rw [hw]
    exact (hG1.block k (by simpa [World.size_alloc] using Nat.lt_succ_of_lt hk) (fun e => hne (by injection e))).trans (Below.heap_alloc Y _ k hk)
   have hZs : Y.heap.size ≤ w'.heap.size := by
    rw [hw]
    exact Nat.le_trans (by simp [World.size_alloc]) hG1.size
   have hbK : base ≤ K := by
    obtain ⟨K', c', cl', he, -, hb, -, -⟩ := qd5 HK3.out (by simp)
    injection he with e1 _ _; injection e1 with e1; injection e1 with e1 _ _; rw [e1]; exact hb
   have hZB : Below base Y w' := by
    rw [hw]
    exact (qca (Below.refl base Y) HBb.out (qa6 (Below.refl _ _) _)).grown hG1 (Nat.le_trans HBb.out (by simp [World.size_alloc])) (fun j e => by injection e with e; rw [← e]; exact hbK)
   have hRw : k27.R 27 w' base (fun k => oA k ∨ Y.heap.size ≤ k) (.slice (some ⟨K, 0, none⟩) (n + 1) c0) (xs ++ [newR lo hi x]) := by rw [hw]; exact hR1
   obtain ⟨hso, hsf, hIP, hBZ⟩ := qia (o := o) (o' := wrap64 (o * hi)) (n := n) (K := K) (Sb := Sb) (F := F) (c := c) (q := q) (b := 0) (f := f) (fs := fs) (ns := ns) hl10 HB.out.1 HBb.out HG2.out HR2.out hrg hra hv0 hv1 (by rw [hf0]; exact HK2.out) HI2.out (by rw [HLN.out]; exact HM.out.2.2.2.1) HS2.out HO.out.2.2 hZ hZs hZB hRw
   have hFK : F ≠ K := qdz HF2.out (qae HH.out.1 HBY.out) (by decide)
   have hF1 : w'.cell? ⟨F, m + 1, none⟩ = some (.slice (some ⟨Sb, 0, none⟩) n1 c1) := by rw [← HM.out.2.2.2.2]; exact (qa2 ((hZ F (qam HF2.out) hFK).trans HF2.out) (m + 1)).trans HCS.out.2
   have HIP := qa0.mk hIP
   have HBZ := qa0.mk hBZ
   clear hw hR1 hG1 hZ hZs hZB hRw hIP hBZ hFK hbK HXC HTH HRZ HGZ
   go_wp2_with (first | (go_at_call 35; refine (qe2 base g _ _ _ HIP.out rv HRV.out).mono ?_; rintro e' w6 ⟨rfl, hI6, hB6⟩; have HI6 := qa0.mk hI6; have HB6 := qa0.mk hB6; clear hI6 hB6))
   go_ret
   unfold repS
   rw [HTM.out]
   exact ⟨rfl, HI6.out, ((Bel.of_below HBY.out HB.out.2.1).trans HBZ.out).trans HB6.out⟩
end Go.Proofs.Ytcmipoicnonaeaa.F
end
